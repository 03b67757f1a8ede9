-- written by a program of this session (pp.py), out of the kit's print and this session's contracts
import Derived.Test.YtcbfnmabckjijaaPOrderBehindx0
import Derived.Test.YtcbfnmabckjijaaPOrderBehindx6
import Derived.Test.YtcbfnmabckjijaaVOrderBehindPe
namespace Go.Proofs.Ytcbfnmabckjijaa.POrderBehind
open Go.RowKit Go.Proofs.YtcbfnmabckjijaaW.PrintWords Go.Proofs.YtcbfnmabckjijaaW.PrintLast Go.Proofs.YtcbfnmabckjijaaW.PrintMore
set_option linter.unusedVariables false
set_option linter.unusedSimpArgs false

def selvedgeref11_Past.l0 : Nat → Int → List Bool → List (S37) → Int → Int → Int → List (S37) → Option ((List (S37)))
 | 0, _, _, _, _, _, _, _ => none
 | k + 1, x2, x7, x8, x9, x167000, x167001, x167002 => if x9 < (x167002.length : Int) then (if 0 ≤ x9 then (if x9 < (x7.length : Int) then (if rdOf false x7 x9 = true then (if ((rd_T37 x167002 x9).f1.f1) > x2 then (if x8.length < 1466015503701 then (selvedgeref11_Past.l0 k x2 x7 (x8 ++ [(⟨(rd_T37 x167002 x9).f0, (⟨(rd_T37 x167002 x9).f1.f0, (rd_T37 x167002 x9).f1.f1, (rd_T37 x167002 x9).f1.f2, (rd_T37 x167002 x9).f1.f3, (⟨(rd_T37 x167002 x9).f1.f4.f0, (rd_T37 x167002 x9).f1.f4.f1⟩ : S33)⟩ : S35)⟩ : S37)]) (wrap64 (x9 + 1)) x167000 x167001 x167002) else (none)) else (selvedgeref11_Past.l0 k x2 x7 x8 (wrap64 (x9 + 1)) x167000 x167001 x167002)) else (selvedgeref11_Past.l0 k x2 x7 x8 (wrap64 (x9 + 1)) x167000 x167001 x167002)) else (none)) else (none)) else (some x8)
def selvedgeref11_Past.f (k : Nat) (a0_0 : Int) (a0_1 : Int) (l0_2 : List (S37)) (a1 : ByteArray) (a2 : Int) : Option ((List (S37))) := (selvedgeref11_reach.f k a0_0 a0_1 l0_2 a1).bind fun t167 => (selvedgeref11_Past.l0 k a2 t167 ([] : List (S37)) 0 a0_0 a0_1 l0_2)
set_option maxHeartbeats 8000000 in
set_option maxRecDepth 100000 in
theorem selvedgeref11_Past.calls (k : Nat) (a0_0 : Int) (a0_1 : Int) (P0_2_ : Nat → Prop) (A0_2 : Option Addr) (c0_2 : Nat) (l0_2 : List (S37)) (a1 : ByteArray) (a2 : Int) (r : List (S37)) (w : World) (hs0_2 : Kd.V k37 37 w w.heap.size (fun k_ => P0_2_ k_) (.slice A0_2 l0_2.length c0_2) l0_2) (h : selvedgeref11_Past.f k a0_0 a0_1 l0_2 a1 a2 = some r) :
  Calls Try.prog 55 #[.agg #[.int .i64 a0_0, .int .i64 a0_1, .slice A0_2 l0_2.length c0_2], .string a1, .int .i64 a2] w fun e w' => ∃ v0_ : Value, e = .returned (v0_) ∧ Kd.N k37 37 w' w.heap.size (fun k_ => (P0_2_ k_ ∨ w.heap.size ≤ k_)) v0_ r ∧ Below w.heap.size w w' := by
 have hu24 := Try.underlying24
 have hu37 := Try.underlying37
 have HO0_2 := Aside0.mk (show Kd.V k37 37 w w.heap.size (fun k_ => (P0_2_ k_ ∨ w.heap.size ≤ k_)) (.slice A0_2 l0_2.length c0_2) l0_2 from Kd.V_mono hs0_2 (fun k_ hk => .inl hk))
 have HB := Aside0.mk (Below.refl w.heap.size w)
 have H : ((selvedgeref11_reach.f k a0_0 a0_1 l0_2 a1).bind fun t167 => (selvedgeref11_Past.l0 k a2 t167 ([] : List (S37)) 0 a0_0 a0_1 l0_2)) = some r := h
 clear h
 replace H := Option.bind_eq_some_iff.mp H
 obtain ⟨t167, A40, H⟩ := H
 replace H : (selvedgeref11_Past.l0 k a2 t167 ([] : List (S37)) 0 a0_0 a0_1 l0_2) = some r := H
 have A4 := Aside0.mk A40
 clear A40
 have H' := Aside0.mk H
 clear H
 go_enter Try.func55, Try.ntmps55
 go_wp2_with (first | ((with_reducible refine gate_dst (N := 3) rfl ?_); refine box_event ?hg (N := 3) ?hd (cs := #[.int .i64 a0_0, .int .i64 a0_1, .slice A0_2 l0_2.length c0_2]) (t := 24) ?hr ?_; (case hd => rfl); (case hg => rfl); (case hr => first | (go_simp; done) | (go_simp; rfl)); intro gb166 hg w5 hbox hb; have n0_ := Aside0.mk (Kd.V_below (Kd.V_elderB (Kd.pV HO0_2.out) gb166 (Nat.le_of_eq hg.symm)) hb); have n1_ := Aside0.mk (below_step (by repeat (first | (with_reducible first | exact HB.out | apply below_alloc | apply pw_below_drewN | apply below_drew1) | exact HB.out)) hb); have n2_ := Aside0.mk (hbox); have n3_ := Aside0.mk ((by rw [hg]; exact (below_size (by repeat (first | (with_reducible first | exact HB.out | apply below_alloc | apply pw_below_drewN | apply below_drew1) | exact HB.out))) : w.heap.size ≤ gb166)); have n4_ := Aside0.mk ((by rw [hg]; exact (below_size (by repeat (first | (with_reducible first | exact HB.out | apply below_alloc | apply pw_below_drewN | apply below_drew1) | exact HB.out))) : w.heap.size ≤ gb166)); clear HO0_2; clear HB; have HO0_2 := n0_; have HB := n1_; have BK166 := n2_; have GW166 := n3_; have GE166 := n4_; clear n0_ n1_ n2_ n3_ n4_; clear hb hbox hg; have hcz6_0 : w5.cell? ⟨gb166, 0, none⟩ = some (.int .i64 a0_0) := (blk_cell BK166.out 0).trans rfl; have hcz6_1 : w5.cell? ⟨gb166, 1, none⟩ = some (.int .i64 a0_1) := (blk_cell BK166.out 1).trans rfl; have hcz6_2 : w5.cell? ⟨gb166, 2, none⟩ = some (.slice A0_2 l0_2.length c0_2) := (blk_cell BK166.out 2).trans rfl; have hfz6_0 := blk_frozen BK166.out 0; have hfz6_1 := blk_frozen BK166.out 1; have hfz6_2 := blk_frozen BK166.out 2) | ((with_reducible refine gate_callee (f := 84) rfl ?_); refine goesL_ (some 12) rfl rfl Try.func84 (by kernel_rfl) rfl #[.agg #[.int .i64 a0_0, .int .i64 a0_1, .slice A0_2 l0_2.length c0_2], .string a1] rfl (by (try simp only [List.map_toArray, List.map_cons, List.map_nil]); first | done | rfl | (simp only [List.length_drop, List.length_take]; rfl)) ?_; (with_reducible refine (selvedgeref11_reach.calls k a0_0 a0_1 _ _ l0_2 a1 t167 _ ?side1 ?side2 A4.out).mono ?_); (case side1 => repeat (first | exact (Kd.V_reads' HO0_2.out).2.2 | (with_reducible refine Kd.C_alloc ?_ _) | (with_reducible refine Kd.C_drewN ?_ _) | (with_reducible refine Kd.C_drew ?_))); (case side2 => exact (Kd.V_reads' HO0_2.out).2.1); rintro e w7 ⟨v168, rfl, ho0, hb⟩; refine ⟨_, rfl, ?_⟩; have n0_ := Aside0.mk (Kd.V_elder' (Kd.pV HO0_2.out) (Kd.R_base ho0) hb); have n1_ := Aside0.mk (Kd.R_lower (Kd.R_newM (M := fun k_ => (w.heap.size ≤ k_)) ho0 (below_size (by repeat (first | (with_reducible first | exact HB.out | apply below_alloc | apply pw_below_drewN | apply below_drew1 | refine below_set ?_ GE166.out) | exact HB.out))) (fun k_ h_ => h_)) (below_size (by repeat (first | (with_reducible first | exact HB.out | apply below_alloc | apply pw_below_drewN | apply below_drew1 | refine below_set ?_ GE166.out) | exact HB.out)))); have n2_ := Aside0.mk (blk_below (g := gb166) (o := .cells #[.int .i64 a0_0, .int .i64 a0_1, .slice A0_2 l0_2.length c0_2] 24 (0, 0)) (pB BK166.out) hb); have n3_ := Aside0.mk (below_step (by repeat (first | (with_reducible first | exact HB.out | apply below_alloc | apply pw_below_drewN | apply below_drew1 | refine below_set ?_ GE166.out) | exact HB.out)) hb); clear HO0_2; clear BK166; clear HB; have HO0_2 := n0_; have HO169 := n1_; have BK166 := n2_; have HB := n3_; clear n0_ n1_ n2_ n3_; (try clear hb); (try clear hb2); (try clear hk); (try clear hi); (try clear ho0)))
 go_loopg [8, 9] k (fun kq v8 v9 w' => ∃ (x8_1 : List (S37)) (x9_1 : Int), v9 = .int .i64 x9_1 ∧ Aside0 (selvedgeref11_Past.l0 kq a2 t167 x8_1 x9_1 a0_0 a0_1 l0_2 = some r) ∧ Aside0 (kq ≤ k) ∧ Aside0 (Kd.R Kd.bool 4 w' w.heap.size (fun k_ => (w.heap.size ≤ k_)) v168 t167) ∧ Aside0 (Kd.N k37 37 w' w.heap.size (fun k_ => (P0_2_ k_ ∨ w.heap.size ≤ k_) ∧ some k_ ≠ (v168 : Value).ownBlock ∧ k_ ≠ gb166) v8 x8_1) ∧ Aside0 (Kd.V k37 37 w' w.heap.size (fun k_ => (P0_2_ k_ ∨ w.heap.size ≤ k_) ∧ some k_ ≠ (v168 : Value).ownBlock ∧ some k_ ≠ (v8 : Value).ownBlock ∧ k_ ≠ gb166) (.slice A0_2 l0_2.length c0_2) l0_2) ∧ Aside0 (w'.heap[gb166]? = some (.cells #[.int .i64 a0_0, .int .i64 a0_1, (.slice A0_2 l0_2.length c0_2)] 24 (0, 0))) ∧ Aside0 (Below w.heap.size w w'))
 case atStart => exact ⟨(([] : List (S37))), (0), (by first | rfl | (simp; done) | (simp [*]; done)), H', ⟨Nat.le_refl _⟩, ⟨by (with_reducible repeat (first | apply Kd.R_alloc | apply Kd.R_drewN | apply Kd.R_drew)); exact Kd.R_mono HO169.out (fun _ hk => hk.1)⟩, ⟨by first | exact Kd.R_nil _ _ _ _ _ | exact Kd.N_nil _ _ _ _ _ | exact Kd.V_nil _ _ _ _ _ | exact Kd.Q_nil _ _ _ _ _ | exact Kd.S_nil _ _ _ _ _⟩, ⟨by (with_reducible repeat (first | apply Kd.V_alloc | apply Kd.V_drewN | apply Kd.V_drew)); exact Kd.V_mono HO0_2.out (fun _ hk => ⟨hk.1.1, ⟨hk.2, ⟨(by simp [Value.ownBlock]), hk.1.2⟩⟩⟩)⟩, ⟨by (with_reducible repeat (first | refine blk_drewN ?_ _ | refine blk_drew ?_ | refine blk_alloc ?_ _)); exact BK166.out⟩, ⟨by repeat (first | (with_reducible first | exact HB.out | apply below_alloc | apply pw_below_drewN | apply below_drew1 | refine below_set ?_ GE166.out) | exact HB.out)⟩⟩
 case round =>
  clear H'
  try clear p2
  try clear c5
  try clear hcz6_0
  try clear hcz6_1
  try clear hcz6_2
  try clear hfz6_0
  try clear hfz6_1
  try clear hfz6_2
  obtain ⟨x8_1, x9_1, rfl, HA, HK1, HO_7, HO_8, HO_167002, BK166, HB⟩ := hrel
  cases gk with
  | zero => exact absurd HA.out (by simp [selvedgeref11_Past.l0])
  | succ k1 =>
   have H := HA.out
   clear HA
   simp only [selvedgeref11_Past.l0] at H
   by_cases c8 : x9_1 < (l0_2.length : Int)
   ·
    rw [if_pos c8] at H
    have c8b0 : decide (x9_1 < (l0_2.length : Int)) = true := decide_eq_true c8
    clear c8
    by_cases c9 : 0 ≤ x9_1
    ·
     rw [if_pos c9] at H
     have c9b0 : decide (0 ≤ x9_1) = true := decide_eq_true c9
     clear c9
     by_cases c10 : x9_1 < (t167.length : Int)
     ·
      rw [if_pos c10] at H
      have c10b0 : decide (x9_1 < (t167.length : Int)) = true := decide_eq_true c10
      clear c10
      obtain ⟨bq11, hbq11⟩ : ∃ b_ : Bool, b_ = (rdOf false t167 x9_1) := ⟨_, rfl⟩
      replace H : (if bq11 = true then (if ((rd_T37 l0_2 x9_1).f1.f1) > a2 then (if x8_1.length < 1466015503701 then (selvedgeref11_Past.l0 k1 a2 t167 (x8_1 ++ [(⟨(rd_T37 l0_2 x9_1).f0, (⟨(rd_T37 l0_2 x9_1).f1.f0, (rd_T37 l0_2 x9_1).f1.f1, (rd_T37 l0_2 x9_1).f1.f2, (rd_T37 l0_2 x9_1).f1.f3, (⟨(rd_T37 l0_2 x9_1).f1.f4.f0, (rd_T37 l0_2 x9_1).f1.f4.f1⟩ : S33)⟩ : S35)⟩ : S37)]) (wrap64 (x9_1 + 1)) a0_0 a0_1 l0_2) else (none)) else (selvedgeref11_Past.l0 k1 a2 t167 x8_1 (wrap64 (x9_1 + 1)) a0_0 a0_1 l0_2)) else (selvedgeref11_Past.l0 k1 a2 t167 x8_1 (wrap64 (x9_1 + 1)) a0_0 a0_1 l0_2)) = some r := by rw [← hbq11] at H; exact H
      have Nbq11 := Aside0.mk hbq11
      clear hbq11
      by_cases c12 : bq11 = true
      ·
       subst c12
       have H1 : (if ((rd_T37 l0_2 x9_1).f1.f1) > a2 then (if x8_1.length < 1466015503701 then (selvedgeref11_Past.l0 k1 a2 t167 (x8_1 ++ [(⟨(rd_T37 l0_2 x9_1).f0, (⟨(rd_T37 l0_2 x9_1).f1.f0, (rd_T37 l0_2 x9_1).f1.f1, (rd_T37 l0_2 x9_1).f1.f2, (rd_T37 l0_2 x9_1).f1.f3, (⟨(rd_T37 l0_2 x9_1).f1.f4.f0, (rd_T37 l0_2 x9_1).f1.f4.f1⟩ : S33)⟩ : S35)⟩ : S37)]) (wrap64 (x9_1 + 1)) a0_0 a0_1 l0_2) else (none)) else (selvedgeref11_Past.l0 k1 a2 t167 x8_1 (wrap64 (x9_1 + 1)) a0_0 a0_1 l0_2)) = some r := by rw [if_pos rfl] at H; exact H
       clear H
       have H := H1
       clear H1
       by_cases c13 : ((rd_T37 l0_2 x9_1).f1.f1) > a2
       ·
        rw [if_pos c13] at H
        have c13b0 : decide (a2 < ((rd_T37 l0_2 x9_1).f1.f1)) = true := decide_eq_true c13
        clear c13
        by_cases c14 : x8_1.length < 1466015503701
        ·
         rw [if_pos c14] at H
         have LMc14 := Aside0.mk c14
         clear c14
         obtain ⟨y173, hy173⟩ : ∃ y_ : List (S37), y_ = (x8_1 ++ [(⟨(rd_T37 l0_2 x9_1).f0, (⟨(rd_T37 l0_2 x9_1).f1.f0, (rd_T37 l0_2 x9_1).f1.f1, (rd_T37 l0_2 x9_1).f1.f2, (rd_T37 l0_2 x9_1).f1.f3, (⟨(rd_T37 l0_2 x9_1).f1.f4.f0, (rd_T37 l0_2 x9_1).f1.f4.f1⟩ : S33)⟩ : S35)⟩ : S37)]) := ⟨_, rfl⟩
         replace H : (selvedgeref11_Past.l0 k1 a2 t167 y173 (wrap64 (x9_1 + 1)) a0_0 a0_1 l0_2) = some r := by first | (rw [hy173]; with_reducible exact H) | (have H2_ := (Option.bind_some _ _).symm.trans H; rw [hy173]; with_reducible exact H2_) | (have H2_ := (Option.bind_some _ _).symm.trans H; with_reducible exact H2_) | with_reducible exact H | (rw [hy173]; exact H) | exact H
         have Ny173 := Aside0.mk hy173
         clear hy173
         have H' := Aside0.mk H
         clear H
         have hcz15_0 : wr.cell? ⟨gb166, 0, none⟩ = some (.int .i64 a0_0) := (blk_cell BK166.out 0).trans rfl
         have hcz15_1 : wr.cell? ⟨gb166, 1, none⟩ = some (.int .i64 a0_1) := (blk_cell BK166.out 1).trans rfl
         have hcz15_2 : wr.cell? ⟨gb166, 2, none⟩ = some (.slice A0_2 l0_2.length c0_2) := (blk_cell BK166.out 2).trans rfl
         have hfz15_0 := blk_frozen BK166.out 0
         have hfz15_1 := blk_frozen BK166.out 1
         have hfz15_2 := blk_frozen BK166.out 2
         obtain ⟨Ao16, co16, eo16⟩ := Kd.R_slice HO_7.out
         subst eo16
         have p170 : 0 ≤ (x9_1 : Int) := of_decide_eq_true (by first | (with_reducible assumption) | assumption)
         have q170 : x9_1 < (t167.length : Int) := of_decide_eq_true (by first | (with_reducible assumption) | assumption)
         obtain ⟨ad170, e170, hx170_0⟩ := Kd.at_bool (Kd.R_reads' HO_7.out).2.2 x9_1 p170 q170
         (try rw [← Nbq11.out] at hx170_0)
         cases e170
         replace p170 := eq_true p170
         replace q170 := eq_true q170
         have p171 : 0 ≤ (x9_1 : Int) := of_decide_eq_true (by first | (with_reducible assumption) | assumption)
         have q171 : x9_1 < (l0_2.length : Int) := of_decide_eq_true (by first | (with_reducible assumption) | assumption)
         obtain ⟨ad171, A171_3, c171_3, A171_4, c171_4, e171, hx171_0, hx171_1, hx171_2, hx171_3, hx171_4, hx171_5, hx171_6, hl171_3, hi171_3, hl171_4, hi171_4⟩ := at_T37 (Kd.V_reads' HO_167002.out).2.2 x9_1 p171 q171
         cases e171
         obtain ⟨ce171, hce171, hMe171, hcc171⟩ := Kd.V_get HO_167002.out z37 x9_1 p171 (by first | exact q171 | exact of_decide_eq_true (by first | (with_reducible assumption) | assumption) | (have e_ := (Kd.V_reads' HO_167002.out).1; omega))
         obtain ⟨ua171_3, uc171_3, ua171_4, uc171_4, rfl, ul171_3, ge171_3, ul171_4, ge171_4⟩ := k37_openF hMe171
         have hv171_3 := hcc171 3 _ rfl
         rw [add_field _ _ 3 (by omega)] at hv171_3
         replace hv171_3 := Option.some.inj (hv171_3.symm.trans hx171_3)
         injection hv171_3 with hva_ hvn_ hvc_
         rw [hva_] at ge171_3
         rw [hvc_] at ul171_3
         have HL171_3 := Aside0.mk (show Kd.V k129 129 _ w.heap.size _ _ ((rd_T37 l0_2 x9_1).f1.f2) from Kd.V_mk ul171_3 ge171_3)
         clear hva_ hvn_ hvc_ ge171_3 ul171_3
         have hv171_4 := hcc171 4 _ rfl
         rw [add_field _ _ 4 (by omega)] at hv171_4
         replace hv171_4 := Option.some.inj (hv171_4.symm.trans hx171_4)
         injection hv171_4 with hva_ hvn_ hvc_
         rw [hva_] at ge171_4
         rw [hvc_] at ul171_4
         have HL171_4 := Aside0.mk (show Kd.V Kd.string 9 _ w.heap.size _ _ ((rd_T37 l0_2 x9_1).f1.f3) from Kd.V_mk ul171_4 ge171_4)
         clear hva_ hvn_ hvc_ ge171_4 ul171_4
         clear hcc171 hce171
         have HR171_3 := Aside0.mk hi171_3
         have HC171_3 := Aside0.mk hl171_3
         clear hi171_3 hl171_3
         have HR171_4 := Aside0.mk hi171_4
         have HC171_4 := Aside0.mk hl171_4
         clear hi171_4 hl171_4
         replace p171 := eq_true p171
         replace q171 := eq_true q171
         have p172 : 0 ≤ (x9_1 : Int) := of_decide_eq_true (by first | (with_reducible assumption) | assumption)
         have q172 : x9_1 < (l0_2.length : Int) := of_decide_eq_true (by first | (with_reducible assumption) | assumption)
         obtain ⟨ad172, A172_3, c172_3, A172_4, c172_4, e172, hx172_0, hx172_1, hx172_2, hx172_3, hx172_4, hx172_5, hx172_6, hl172_3, hi172_3, hl172_4, hi172_4⟩ := at_T37 (Kd.V_reads' HO_167002.out).2.2 x9_1 p172 q172
         obtain rfl : ad171 = ad172 := (by injection e172)
         obtain ⟨ce172, hce172, hMe172, hcc172⟩ := Kd.V_get HO_167002.out z37 x9_1 p172 (by first | exact q172 | exact of_decide_eq_true (by first | (with_reducible assumption) | assumption) | (have e_ := (Kd.V_reads' HO_167002.out).1; omega))
         obtain ⟨ua172_3, uc172_3, ua172_4, uc172_4, rfl, ul172_3, ge172_3, ul172_4, ge172_4⟩ := k37_openF hMe172
         have hv172_3 := hcc172 3 _ rfl
         rw [add_field _ _ 3 (by omega)] at hv172_3
         replace hv172_3 := Option.some.inj (hv172_3.symm.trans hx172_3)
         injection hv172_3 with hva_ hvn_ hvc_
         rw [hva_] at ge172_3
         rw [hvc_] at ul172_3
         have HL172_3 := Aside0.mk (show Kd.V k129 129 _ w.heap.size _ _ ((rd_T37 l0_2 x9_1).f1.f2) from Kd.V_mk ul172_3 ge172_3)
         clear hva_ hvn_ hvc_ ge172_3 ul172_3
         have hv172_4 := hcc172 4 _ rfl
         rw [add_field _ _ 4 (by omega)] at hv172_4
         replace hv172_4 := Option.some.inj (hv172_4.symm.trans hx172_4)
         injection hv172_4 with hva_ hvn_ hvc_
         rw [hva_] at ge172_4
         rw [hvc_] at ul172_4
         have HL172_4 := Aside0.mk (show Kd.V Kd.string 9 _ w.heap.size _ _ ((rd_T37 l0_2 x9_1).f1.f3) from Kd.V_mk ul172_4 ge172_4)
         clear hva_ hvn_ hvc_ ge172_4 ul172_4
         clear hcc172 hce172
         have HR172_3 := Aside0.mk hi172_3
         have HC172_3 := Aside0.mk hl172_3
         clear hi172_3 hl172_3
         have HR172_4 := Aside0.mk hi172_4
         have HC172_4 := Aside0.mk hl172_4
         clear hi172_4 hl172_4
         replace p172 := eq_true p172
         replace q172 := eq_true q172
         have ea_ := Option.some.inj (hx171_3.symm.trans hx172_3)
         injection ea_ with ea_ en_ ec_
         subst ea_
         subst ec_
         clear en_
         have ea_ := Option.some.inj (hx171_4.symm.trans hx172_4)
         injection ea_ with ea_ en_ ec_
         subst ea_
         subst ec_
         clear en_
         go_wp2_with (first | ((with_reducible refine gate_builtin (b := .append) (xs := #[.tmp 35, .tmp 41]) rfl ?_); at_builtin; refine Kd.N_append k37 (w0 := w) w.heap.size rfl (.tmp 35) (.tmp 41) 22 37 (.agg #[(.string ⟨#[]⟩), (.int .i64 0), (.int .i64 0), (.slice none 0 0), (.slice none 0 0), (.int .i64 0), (.int .i64 0)]) 96 rfl Try.underlying22 info37 rfl (by decide) (by omega) u8 x8_1 (⟨(rd_T37 l0_2 x9_1).f0, (⟨(rd_T37 l0_2 x9_1).f1.f0, (rd_T37 l0_2 x9_1).f1.f1, (rd_T37 l0_2 x9_1).f1.f2, (rd_T37 l0_2 x9_1).f1.f3, (⟨(rd_T37 l0_2 x9_1).f1.f4.f0, (rd_T37 l0_2 x9_1).f1.f4.f1⟩ : S33)⟩ : S35)⟩ : S37) [.string ((rd_T37 l0_2 x9_1).f0), .int .i64 ((rd_T37 l0_2 x9_1).f1.f0), .int .i64 ((rd_T37 l0_2 x9_1).f1.f1), .slice A171_3 ((rd_T37 l0_2 x9_1).f1.f2).length c171_3, .slice A171_4 ((rd_T37 l0_2 x9_1).f1.f3).length c171_4, .int .i64 ((rd_T37 l0_2 x9_1).f1.f4.f0), .int .i64 ((rd_T37 l0_2 x9_1).f1.f4.f1)] (fun k_ => (P0_2_ k_ ∨ w.heap.size ≤ k_) ∧ some k_ ≠ (.slice (some ad170) t167.length co16 : Value).ownBlock ∧ k_ ≠ gb166) (fun k_ => ((fun k_ => (P0_2_ k_ ∨ w.heap.size ≤ k_) ∧ some k_ ≠ (.slice (some ad170) t167.length co16 : Value).ownBlock ∧ k_ ≠ gb166)) k_ ∧ some k_ ≠ (u8 : Value).ownBlock) rfl rfl ?aP (fun _ hk => hk) ?aF ?aO ?aB ?aS ?aL ?_; (case aP => exact (k37_mkF _ _ (⟨(rd_T37 l0_2 x9_1).f0, (⟨(rd_T37 l0_2 x9_1).f1.f0, (rd_T37 l0_2 x9_1).f1.f1, (rd_T37 l0_2 x9_1).f1.f2, (rd_T37 l0_2 x9_1).f1.f3, (⟨(rd_T37 l0_2 x9_1).f1.f4.f0, (rd_T37 l0_2 x9_1).f1.f4.f1⟩ : S33)⟩ : S35)⟩ : S37) (Kd.V_reads' (Kd.V_mono (ok' := (fun k_ => ((fun k_ => (P0_2_ k_ ∨ w.heap.size ≤ k_) ∧ some k_ ≠ (.slice (some ad170) t167.length co16 : Value).ownBlock ∧ k_ ≠ gb166)) k_ ∧ some k_ ≠ (u8 : Value).ownBlock)) (HL172_3.out) (fun k_ hk => ⟨⟨hk.1, ⟨hk.2.1, hk.2.2.2⟩⟩, hk.2.2.1⟩))).2.1 (Kd.V_F (Kd.V_mono (ok' := (fun k_ => ((fun k_ => (P0_2_ k_ ∨ w.heap.size ≤ k_) ∧ some k_ ≠ (.slice (some ad170) t167.length co16 : Value).ownBlock ∧ k_ ≠ gb166)) k_ ∧ some k_ ≠ (u8 : Value).ownBlock)) (HL172_3.out) (fun k_ hk => ⟨⟨hk.1, ⟨hk.2.1, hk.2.2.2⟩⟩, hk.2.2.1⟩))) (Kd.V_reads' (Kd.V_mono (ok' := (fun k_ => ((fun k_ => (P0_2_ k_ ∨ w.heap.size ≤ k_) ∧ some k_ ≠ (.slice (some ad170) t167.length co16 : Value).ownBlock ∧ k_ ≠ gb166)) k_ ∧ some k_ ≠ (u8 : Value).ownBlock)) (HL172_4.out) (fun k_ hk => ⟨⟨hk.1, ⟨hk.2.1, hk.2.2.2⟩⟩, hk.2.2.1⟩))).2.1 (Kd.V_F (Kd.V_mono (ok' := (fun k_ => ((fun k_ => (P0_2_ k_ ∨ w.heap.size ≤ k_) ∧ some k_ ≠ (.slice (some ad170) t167.length co16 : Value).ownBlock ∧ k_ ≠ gb166)) k_ ∧ some k_ ≠ (u8 : Value).ownBlock)) (HL172_4.out) (fun k_ hk => ⟨⟨hk.1, ⟨hk.2.1, hk.2.2.2⟩⟩, hk.2.2.1⟩))))); (case aB => exact (by repeat (first | (with_reducible first | exact HB.out | apply below_alloc | apply pw_below_drewN | apply below_drew1 | refine below_set ?_ GE166.out) | exact HB.out))); (case aF => exact (fun k_ hk => ⟨(.inr (Nat.le_trans (below_size (by repeat (first | (with_reducible first | exact HB.out | apply below_alloc | apply pw_below_drewN | apply below_drew1 | refine below_set ?_ GE166.out) | exact HB.out))) hk)), Kd.fresh' (Kd.R_lt (Kd.pR HO_7.out)) k_ hk, Kd.freshB (g := gb166) (o := .cells #[.int .i64 a0_0, .int .i64 a0_1, .slice (some ad171) l0_2.length c0_2] 24 (0, 0)) (pB BK166.out) k_ hk⟩)); (case aO => exact (Kd.pN HO_8.out)); (case aS => exact (below_size (by repeat (first | (with_reducible first | exact HB.out | apply below_alloc | apply pw_below_drewN | apply below_drew1 | refine below_set ?_ GE166.out) | exact HB.out)))); (case aL => have := LMc14.out; omega); intro v174 w17 ho hb hg hat; rw [← Ny173.out] at ho; have n0_ := Aside0.mk (Kd.R_over' (Kd.pR HO_7.out) (Kd.N_typed (Kd.pN HO_8.out)) (by decide) hg); have n1_ := Aside0.mk (Kd.V_afterv (ok := (fun k_ => (P0_2_ k_ ∨ w.heap.size ≤ k_) ∧ some k_ ≠ (.slice (some ad170) t167.length co16 : Value).ownBlock ∧ k_ ≠ gb166)) (Kd.pV (Kd.V_mono HO_167002.out (fun _ hk => ⟨⟨hk.1, ⟨hk.2.1, hk.2.2.2⟩⟩, hk.2.2.1⟩))) hg hat); have n2_ := Aside0.mk (blk_grown (g := gb166) (o := .cells #[.int .i64 a0_0, .int .i64 a0_1, .slice (some ad171) l0_2.length c0_2] 24 (0, 0)) (pB BK166.out) hg (Kd.N_ne HO_8.out BK166.out (by decide))); have n3_ := Aside0.mk (Kd.V_afterv (ok := (fun k_ => (P0_2_ k_ ∨ w.heap.size ≤ k_) ∧ some k_ ≠ (.slice (some ad170) t167.length co16 : Value).ownBlock ∧ k_ ≠ gb166)) (Kd.pV (Kd.V_mono HL171_3.out (fun _ hk => ⟨⟨hk.1, ⟨hk.2.1, hk.2.2.2⟩⟩, hk.2.2.1⟩))) hg hat); have n4_ := Aside0.mk (Kd.V_afterv (ok := (fun k_ => (P0_2_ k_ ∨ w.heap.size ≤ k_) ∧ some k_ ≠ (.slice (some ad170) t167.length co16 : Value).ownBlock ∧ k_ ≠ gb166)) (Kd.pV (Kd.V_mono HL171_4.out (fun _ hk => ⟨⟨hk.1, ⟨hk.2.1, hk.2.2.2⟩⟩, hk.2.2.1⟩))) hg hat); have n5_ := Aside0.mk (Kd.V_afterv (ok := (fun k_ => (P0_2_ k_ ∨ w.heap.size ≤ k_) ∧ some k_ ≠ (.slice (some ad170) t167.length co16 : Value).ownBlock ∧ k_ ≠ gb166)) (Kd.pV (Kd.V_mono HL172_3.out (fun _ hk => ⟨⟨hk.1, ⟨hk.2.1, hk.2.2.2⟩⟩, hk.2.2.1⟩))) hg hat); have n6_ := Aside0.mk (Kd.V_afterv (ok := (fun k_ => (P0_2_ k_ ∨ w.heap.size ≤ k_) ∧ some k_ ≠ (.slice (some ad170) t167.length co16 : Value).ownBlock ∧ k_ ≠ gb166)) (Kd.pV (Kd.V_mono HL172_4.out (fun _ hk => ⟨⟨hk.1, ⟨hk.2.1, hk.2.2.2⟩⟩, hk.2.2.1⟩))) hg hat); have n7_ := Aside0.mk (hb); have n8_ := Aside0.mk (ho); clear HO_7; clear HO_167002; clear BK166; clear HL171_3; clear HL171_4; clear HL172_3; clear HL172_4; clear HB; clear HO_8; have HO_7 := n0_; have HO_167002 := n1_; have BK166 := n2_; have HL171_3 := n3_; have HL171_4 := n4_; have HL172_3 := n5_; have HL172_4 := n6_; have HB := n7_; have HO175 := n8_; clear n0_ n1_ n2_ n3_ n4_ n5_ n6_ n7_ n8_; clear ho hb hg hat))
         go_roundg k1
         case measure => have := HK1.out; omega
         case rel => exact ⟨(y173), (wrap64 (x9_1 + 1)), (by first | rfl | (simp; done) | (simp [*]; done)), H', ⟨by have := HK1.out; omega⟩, ⟨by (with_reducible repeat (first | apply Kd.R_alloc | apply Kd.R_drewN | apply Kd.R_drew)); exact HO_7.out⟩, ⟨by (with_reducible repeat (first | apply Kd.N_alloc | apply Kd.N_drewN | apply Kd.N_drew)); exact HO175.out⟩, ⟨by (with_reducible repeat (first | apply Kd.V_alloc | apply Kd.V_drewN | apply Kd.V_drew)); exact Kd.V_mono HO_167002.out (fun _ hk => ⟨hk.1.1, ⟨hk.1.2.1, ⟨hk.2, hk.1.2.2⟩⟩⟩)⟩, ⟨by (with_reducible repeat (first | refine blk_drewN ?_ _ | refine blk_drew ?_ | refine blk_alloc ?_ _)); exact BK166.out⟩, ⟨by repeat (first | (with_reducible first | exact HB.out | apply below_alloc | apply pw_below_drewN | apply below_drew1 | refine below_set ?_ GE166.out) | exact HB.out)⟩⟩
        ·
         rw [if_neg c14] at H
         exact absurd H (by simp)
       ·
        rw [if_neg c13] at H
        have c13b0 : decide (a2 < ((rd_T37 l0_2 x9_1).f1.f1)) = false := decide_eq_false c13
        clear c13
        have H' := Aside0.mk H
        clear H
        have hcz18_0 : wr.cell? ⟨gb166, 0, none⟩ = some (.int .i64 a0_0) := (blk_cell BK166.out 0).trans rfl
        have hcz18_1 : wr.cell? ⟨gb166, 1, none⟩ = some (.int .i64 a0_1) := (blk_cell BK166.out 1).trans rfl
        have hcz18_2 : wr.cell? ⟨gb166, 2, none⟩ = some (.slice A0_2 l0_2.length c0_2) := (blk_cell BK166.out 2).trans rfl
        have hfz18_0 := blk_frozen BK166.out 0
        have hfz18_1 := blk_frozen BK166.out 1
        have hfz18_2 := blk_frozen BK166.out 2
        obtain ⟨Ao19, co19, eo19⟩ := Kd.R_slice HO_7.out
        subst eo19
        have p170 : 0 ≤ (x9_1 : Int) := of_decide_eq_true (by first | (with_reducible assumption) | assumption)
        have q170 : x9_1 < (t167.length : Int) := of_decide_eq_true (by first | (with_reducible assumption) | assumption)
        obtain ⟨ad170, e170, hx170_0⟩ := Kd.at_bool (Kd.R_reads' HO_7.out).2.2 x9_1 p170 q170
        (try rw [← Nbq11.out] at hx170_0)
        cases e170
        replace p170 := eq_true p170
        replace q170 := eq_true q170
        have p171 : 0 ≤ (x9_1 : Int) := of_decide_eq_true (by first | (with_reducible assumption) | assumption)
        have q171 : x9_1 < (l0_2.length : Int) := of_decide_eq_true (by first | (with_reducible assumption) | assumption)
        obtain ⟨ad171, A171_3, c171_3, A171_4, c171_4, e171, hx171_0, hx171_1, hx171_2, hx171_3, hx171_4, hx171_5, hx171_6, hl171_3, hi171_3, hl171_4, hi171_4⟩ := at_T37 (Kd.V_reads' HO_167002.out).2.2 x9_1 p171 q171
        cases e171
        obtain ⟨ce171, hce171, hMe171, hcc171⟩ := Kd.V_get HO_167002.out z37 x9_1 p171 (by first | exact q171 | exact of_decide_eq_true (by first | (with_reducible assumption) | assumption) | (have e_ := (Kd.V_reads' HO_167002.out).1; omega))
        obtain ⟨ua171_3, uc171_3, ua171_4, uc171_4, rfl, ul171_3, ge171_3, ul171_4, ge171_4⟩ := k37_openF hMe171
        have hv171_3 := hcc171 3 _ rfl
        rw [add_field _ _ 3 (by omega)] at hv171_3
        replace hv171_3 := Option.some.inj (hv171_3.symm.trans hx171_3)
        injection hv171_3 with hva_ hvn_ hvc_
        rw [hva_] at ge171_3
        rw [hvc_] at ul171_3
        have HL171_3 := Aside0.mk (show Kd.V k129 129 _ w.heap.size _ _ ((rd_T37 l0_2 x9_1).f1.f2) from Kd.V_mk ul171_3 ge171_3)
        clear hva_ hvn_ hvc_ ge171_3 ul171_3
        have hv171_4 := hcc171 4 _ rfl
        rw [add_field _ _ 4 (by omega)] at hv171_4
        replace hv171_4 := Option.some.inj (hv171_4.symm.trans hx171_4)
        injection hv171_4 with hva_ hvn_ hvc_
        rw [hva_] at ge171_4
        rw [hvc_] at ul171_4
        have HL171_4 := Aside0.mk (show Kd.V Kd.string 9 _ w.heap.size _ _ ((rd_T37 l0_2 x9_1).f1.f3) from Kd.V_mk ul171_4 ge171_4)
        clear hva_ hvn_ hvc_ ge171_4 ul171_4
        clear hcc171 hce171
        have HR171_3 := Aside0.mk hi171_3
        have HC171_3 := Aside0.mk hl171_3
        clear hi171_3 hl171_3
        have HR171_4 := Aside0.mk hi171_4
        have HC171_4 := Aside0.mk hl171_4
        clear hi171_4 hl171_4
        replace p171 := eq_true p171
        replace q171 := eq_true q171
        go_wp2
        go_roundg k1
        case measure => have := HK1.out; omega
        case rel => exact ⟨(x8_1), (wrap64 (x9_1 + 1)), (by first | rfl | (simp; done) | (simp [*]; done)), H', ⟨by have := HK1.out; omega⟩, ⟨by (with_reducible repeat (first | apply Kd.R_alloc | apply Kd.R_drewN | apply Kd.R_drew)); exact HO_7.out⟩, ⟨by (with_reducible repeat (first | apply Kd.N_alloc | apply Kd.N_drewN | apply Kd.N_drew)); exact HO_8.out⟩, ⟨by (with_reducible repeat (first | apply Kd.V_alloc | apply Kd.V_drewN | apply Kd.V_drew)); exact HO_167002.out⟩, ⟨by (with_reducible repeat (first | refine blk_drewN ?_ _ | refine blk_drew ?_ | refine blk_alloc ?_ _)); exact BK166.out⟩, ⟨by repeat (first | (with_reducible first | exact HB.out | apply below_alloc | apply pw_below_drewN | apply below_drew1 | refine below_set ?_ GE166.out) | exact HB.out)⟩⟩
      ·
       replace c12 := Bool.eq_false_iff.mpr c12
       subst c12
       have H1 : (selvedgeref11_Past.l0 k1 a2 t167 x8_1 (wrap64 (x9_1 + 1)) a0_0 a0_1 l0_2) = some r := by rw [if_neg (show ¬ (false = true) by decide)] at H; exact H
       clear H
       have H := H1
       clear H1
       have H' := Aside0.mk H
       clear H
       have hcz20_0 : wr.cell? ⟨gb166, 0, none⟩ = some (.int .i64 a0_0) := (blk_cell BK166.out 0).trans rfl
       have hcz20_1 : wr.cell? ⟨gb166, 1, none⟩ = some (.int .i64 a0_1) := (blk_cell BK166.out 1).trans rfl
       have hcz20_2 : wr.cell? ⟨gb166, 2, none⟩ = some (.slice A0_2 l0_2.length c0_2) := (blk_cell BK166.out 2).trans rfl
       have hfz20_0 := blk_frozen BK166.out 0
       have hfz20_1 := blk_frozen BK166.out 1
       have hfz20_2 := blk_frozen BK166.out 2
       obtain ⟨Ao21, co21, eo21⟩ := Kd.R_slice HO_7.out
       subst eo21
       have p170 : 0 ≤ (x9_1 : Int) := of_decide_eq_true (by first | (with_reducible assumption) | assumption)
       have q170 : x9_1 < (t167.length : Int) := of_decide_eq_true (by first | (with_reducible assumption) | assumption)
       obtain ⟨ad170, e170, hx170_0⟩ := Kd.at_bool (Kd.R_reads' HO_7.out).2.2 x9_1 p170 q170
       (try rw [← Nbq11.out] at hx170_0)
       cases e170
       replace p170 := eq_true p170
       replace q170 := eq_true q170
       go_wp2
       go_roundg k1
       case measure => have := HK1.out; omega
       case rel => exact ⟨(x8_1), (wrap64 (x9_1 + 1)), (by first | rfl | (simp; done) | (simp [*]; done)), H', ⟨by have := HK1.out; omega⟩, ⟨by (with_reducible repeat (first | apply Kd.R_alloc | apply Kd.R_drewN | apply Kd.R_drew)); exact HO_7.out⟩, ⟨by (with_reducible repeat (first | apply Kd.N_alloc | apply Kd.N_drewN | apply Kd.N_drew)); exact HO_8.out⟩, ⟨by (with_reducible repeat (first | apply Kd.V_alloc | apply Kd.V_drewN | apply Kd.V_drew)); exact HO_167002.out⟩, ⟨by (with_reducible repeat (first | refine blk_drewN ?_ _ | refine blk_drew ?_ | refine blk_alloc ?_ _)); exact BK166.out⟩, ⟨by repeat (first | (with_reducible first | exact HB.out | apply below_alloc | apply pw_below_drewN | apply below_drew1 | refine below_set ?_ GE166.out) | exact HB.out)⟩⟩
     ·
      rw [if_neg c10] at H
      exact absurd H (by simp)
    ·
     rw [if_neg c9] at H
     exact absurd H (by simp)
   ·
    rw [if_neg c8] at H
    have c8b0 : decide (x9_1 < (l0_2.length : Int)) = false := decide_eq_false c8
    clear c8
    obtain rfl := Option.some.inj H
    have hcz22_0 : wr.cell? ⟨gb166, 0, none⟩ = some (.int .i64 a0_0) := (blk_cell BK166.out 0).trans rfl
    have hcz22_1 : wr.cell? ⟨gb166, 1, none⟩ = some (.int .i64 a0_1) := (blk_cell BK166.out 1).trans rfl
    have hcz22_2 : wr.cell? ⟨gb166, 2, none⟩ = some (.slice A0_2 l0_2.length c0_2) := (blk_cell BK166.out 2).trans rfl
    have hfz22_0 := blk_frozen BK166.out 0
    have hfz22_1 := blk_frozen BK166.out 1
    have hfz22_2 := blk_frozen BK166.out 2
    go_wp2
    go_ret
    exact ⟨_, by first | rfl | (simp [errW_none, errW_some] <;> rfl) | (simp [*, errW_none, errW_some] <;> rfl), by (with_reducible repeat (first | apply Kd.N_alloc | apply Kd.N_drewN | apply Kd.N_drew)); exact Kd.N_mono HO_8.out (fun _ hk => hk.1), by repeat (first | (with_reducible first | exact HB.out | apply below_alloc | apply pw_below_drewN | apply below_drew1 | refine below_set ?_ GE166.out) | exact HB.out)⟩

mutual
def selvedgeref01_Less.l0 : Nat → ByteArray → ByteArray → Int → Option (Bool)
 | 0, _, _, _ => none
 | k + 1, x0, x1, x5 => if x5 < (x0.size : Int) then (selvedgeref01_Less.j1 k x0 x1 x5 (decide (x5 < (x1.size : Int)))) else (selvedgeref01_Less.j1 k x0 x1 x5 false)
def selvedgeref01_Less.j1 : Nat → ByteArray → ByteArray → Int → Bool → Option (Bool)
 | 0, _, _, _, _ => none
 | k + 1, x0, x1, x5, x15 => if x15 = true then (if 0 ≤ x5 then (if x5 < (x0.size : Int) then (if x5 < (x1.size : Int) then (if (bt x0 x5) = (bt x1 x5) then (selvedgeref01_Less.l0 k x0 x1 (wrap64 (x5 + 1))) else (some (decide ((bt x0 x5) < (bt x1 x5))))) else (none)) else (none)) else (none)) else (some (decide ((x0.size : Int) < (x1.size : Int))))
end
def selvedgeref01_Less.f (k : Nat) (a0 : ByteArray) (a1 : ByteArray) : Option (Bool) := selvedgeref01_Less.l0 k a0 a1 0
set_option maxHeartbeats 8000000 in
set_option maxRecDepth 100000 in
theorem selvedgeref01_Less.calls (k : Nat) (a0 : ByteArray) (a1 : ByteArray) (r : Bool) (w : World) (h : selvedgeref01_Less.f k a0 a1 = some r) :
  Calls Try.prog 85 #[.string a0, .string a1] w fun e w' => e = .returned (.bool r) ∧ Drawn0 w w' := by
 have H : (selvedgeref01_Less.l0 k a0 a1 0) = some r := h
 clear h
 have H' := Aside0.mk H
 clear H
 go_enter Try.func85, Try.ntmps85
 go_wp2
 repeat (go_quiet (fail); try go_wp2)
 go_loopg [5] k (fun kq v5 w' => ∃ (x5_1 : Int), v5 = .int .i64 x5_1 ∧ Aside0 (selvedgeref01_Less.l0 kq a0 a1 x5_1 = some r) ∧ Aside0 (kq ≤ k) ∧ Drawn0 w w')
 case atStart => exact ⟨(0), (by first | rfl | (simp; done) | (simp [*]; done)), H', ⟨Nat.le_refl _⟩, by repeat (first | exact Drawn0.refl _ | apply Drawn0.step)⟩
 case round =>
  clear H'
  try clear p2
  obtain ⟨x5_1, rfl, HA, HK1, ⟨m1, rfl⟩⟩ := hrel
  cases gk with
  | zero => exact absurd HA.out (by simp [selvedgeref01_Less.l0])
  | succ k1 =>
   have H := HA.out
   clear HA
   simp only [selvedgeref01_Less.l0] at H
   have HC3 := Aside0.mk H
   clear H
   go_upto_region 2 with (fail)
   repeat (go_quiet (fail); go_upto_region 2 with (fail))
   go_cut [15] (fun v15 wc => ∃ (kq : Nat) (x15_2 : Bool), v15 = .bool x15_2 ∧ Aside0 (selvedgeref01_Less.j1 kq a0 a1 x5_1 x15_2 = some r) ∧ Aside0 (kq ≤ k1) ∧ Drawn0 w wc)
   case first =>
    have H := HC3.out
    clear HC3
    by_cases c4 : x5_1 < (a0.size : Int)
    ·
     rw [if_pos c4] at H
     have c4b0 : decide (x5_1 < (a0.size : Int)) = true := decide_eq_true c4
     clear c4
     (first | rw [c4b0] | (simp only [i64_w, i32_w]; rw [c4b0]) | skip)
     have H' := Aside0.mk H
     clear H
     go_wp2
     repeat (go_quiet (fail); try go_wp2)
     go_meet
     case rel => exact ⟨_, (decide (x5_1 < (a1.size : Int))), (by first | rfl | (simp; done) | (simp [*]; done)), H', ⟨by have := HK1.out; first | omega | exact Nat.le_refl _⟩, by repeat (first | exact Drawn0.refl _ | apply Drawn0.step)⟩
    ·
     rw [if_neg c4] at H
     have c4b0 : decide (x5_1 < (a0.size : Int)) = false := decide_eq_false c4
     clear c4
     (first | rw [c4b0] | (simp only [i64_w, i32_w]; rw [c4b0]) | skip)
     have H' := Aside0.mk H
     clear H
     go_wp2
     repeat (go_quiet (fail); try go_wp2)
     go_meet
     case rel => exact ⟨_, (false), (by first | rfl | (simp; done) | (simp [*]; done)), H', ⟨by have := HK1.out; first | omega | exact Nat.le_refl _⟩, by repeat (first | exact Drawn0.refl _ | apply Drawn0.step)⟩
   case rest =>
    clear HC3
    try clear p2
    try clear c4
    try clear c4b0
    try clear p2
    obtain ⟨kq, x15_2, rfl, HA, HJ2, ⟨mc2, rfl⟩⟩ := hcut
    cases kq with
    | zero => exact absurd HA.out (by simp [selvedgeref01_Less.j1])
    | succ kj2 =>
     have H := HA.out
     clear HA
     simp only [selvedgeref01_Less.j1] at H
     by_cases c5 : x15_2 = true
     ·
      subst c5
      have H1 : (if 0 ≤ x5_1 then (if x5_1 < (a0.size : Int) then (if x5_1 < (a1.size : Int) then (if (bt a0 x5_1) = (bt a1 x5_1) then (selvedgeref01_Less.l0 kj2 a0 a1 (wrap64 (x5_1 + 1))) else (some (decide ((bt a0 x5_1) < (bt a1 x5_1))))) else (none)) else (none)) else (none)) = some r := by rw [if_pos rfl] at H; exact H
      clear H
      have H := H1
      clear H1
      by_cases c6 : 0 ≤ x5_1
      ·
       rw [if_pos c6] at H
       have c6b0 : decide (0 ≤ x5_1) = true := decide_eq_true c6
       clear c6
       by_cases c7 : x5_1 < (a0.size : Int)
       ·
        rw [if_pos c7] at H
        have c7b0 : decide (x5_1 < (a0.size : Int)) = true := decide_eq_true c7
        clear c7
        by_cases c9 : x5_1 < (a1.size : Int)
        ·
         rw [if_pos c9] at H
         have c9b0 : decide (x5_1 < (a1.size : Int)) = true := decide_eq_true c9
         clear c9
         by_cases c11 : (bt a0 x5_1) = (bt a1 x5_1)
         ·
          rw [if_pos c11] at H
          have c11b0 : ((bt a0 x5_1) == (bt a1 x5_1)) = true := beq_iff_eq.mpr c11
          have c11b1 : ((bt a0 x5_1) != (bt a1 x5_1)) = false := bne_eq_false_iff_eq.mpr c11
          clear c11
          have H' := Aside0.mk H
          clear H
          have p8 : 0 ≤ (x5_1 : Int) := of_decide_eq_true (by first | (with_reducible assumption) | assumption)
          have q8 : x5_1 < (a0.size : Int) := of_decide_eq_true (by first | (with_reducible assumption) | assumption)
          have hx8 := bt_at a0 x5_1
          replace p8 := eq_true p8
          replace q8 := eq_true q8
          have p10 : 0 ≤ (x5_1 : Int) := of_decide_eq_true (by first | (with_reducible assumption) | assumption)
          have q10 : x5_1 < (a1.size : Int) := of_decide_eq_true (by first | (with_reducible assumption) | assumption)
          have hx10 := bt_at a1 x5_1
          replace p10 := eq_true p10
          replace q10 := eq_true q10
          go_wp2
          repeat (go_quiet (fail); try go_wp2)
          go_roundg kj2
          case measure => have := HK1.out; have := HJ2.out; omega
          case rel => exact ⟨(wrap64 (x5_1 + 1)), (by first | rfl | (simp; done) | (simp [*]; done)), H', ⟨by have := HK1.out; have := HJ2.out; omega⟩, by repeat (first | exact Drawn0.refl _ | apply Drawn0.step)⟩
         ·
          rw [if_neg c11] at H
          have c11b0 : ((bt a0 x5_1) == (bt a1 x5_1)) = false := beq_eq_false_iff_ne.mpr c11
          have c11b1 : ((bt a0 x5_1) != (bt a1 x5_1)) = true := bne_iff_ne.mpr c11
          obtain rfl := Option.some.inj H
          have p8 : 0 ≤ (x5_1 : Int) := of_decide_eq_true (by first | (with_reducible assumption) | assumption)
          have q8 : x5_1 < (a0.size : Int) := of_decide_eq_true (by first | (with_reducible assumption) | assumption)
          have hx8 := bt_at a0 x5_1
          replace p8 := eq_true p8
          replace q8 := eq_true q8
          have p10 : 0 ≤ (x5_1 : Int) := of_decide_eq_true (by first | (with_reducible assumption) | assumption)
          have q10 : x5_1 < (a1.size : Int) := of_decide_eq_true (by first | (with_reducible assumption) | assumption)
          have hx10 := bt_at a1 x5_1
          replace p10 := eq_true p10
          replace q10 := eq_true q10
          have p12 : 0 ≤ (x5_1 : Int) := of_decide_eq_true (by first | (with_reducible assumption) | assumption)
          have q12 : x5_1 < (a0.size : Int) := of_decide_eq_true (by first | (with_reducible assumption) | assumption)
          have hx12 := bt_at a0 x5_1
          replace p12 := eq_true p12
          replace q12 := eq_true q12
          have p13 : 0 ≤ (x5_1 : Int) := of_decide_eq_true (by first | (with_reducible assumption) | assumption)
          have q13 : x5_1 < (a1.size : Int) := of_decide_eq_true (by first | (with_reducible assumption) | assumption)
          have hx13 := bt_at a1 x5_1
          replace p13 := eq_true p13
          replace q13 := eq_true q13
          go_wp2
          repeat (go_quiet (fail); try go_wp2)
          go_ret
          exact ⟨by first | rfl | (simp; done) | (simp [*]; done), by repeat (first | exact Drawn0.refl _ | apply Drawn0.step)⟩
        ·
         rw [if_neg c9] at H
         exact absurd H (by simp)
       ·
        rw [if_neg c7] at H
        exact absurd H (by simp)
      ·
       rw [if_neg c6] at H
       exact absurd H (by simp)
     ·
      replace c5 := Bool.eq_false_iff.mpr c5
      subst c5
      have H1 : (some (decide ((a0.size : Int) < (a1.size : Int)))) = some r := by rw [if_neg (show ¬ (false = true) by decide)] at H; exact H
      clear H
      have H := H1
      clear H1
      obtain rfl := Option.some.inj H
      go_wp2
      repeat (go_quiet (fail); try go_wp2)
      go_ret
      exact ⟨by first | rfl | (simp; done) | (simp [*]; done), by repeat (first | exact Drawn0.refl _ | apply Drawn0.step)⟩

def selvedgeref14_put.l0 : Nat → List ByteArray → ByteArray → Int → Option (List ByteArray)
 | 0, _, _, _ => none
 | k + 1, x0, x1, x5 => if x5 < (x0.length : Int) then (if 0 ≤ x5 then ((selvedgeref01_Less.f k x1 (rdOf ByteArray.empty x0 x5)).bind fun t177 => (if t177 = true then ((some (([] : List ByteArray) : List ByteArray)).bind fun y178 => (if x5 ≤ (x0.length : Int) then (if y178.length + (x0.take (x5 : Int).toNat).length < 8796093022208 then ((some (y178 ++ (x0.take (x5 : Int).toNat) : List ByteArray)).bind fun y182 => (if y182.length < 8796093022208 then ((some (y182 ++ [x1] : List ByteArray)).bind fun y185 => (if y185.length + (x0.drop (x5 : Int).toNat).length < 8796093022208 then (some (y185 ++ (x0.drop (x5 : Int).toNat))) else (none))) else (none))) else (none)) else (none))) else (selvedgeref14_put.l0 k x0 x1 (wrap64 (x5 + 1))))) else (none)) else ((some (([] : List ByteArray) : List ByteArray)).bind fun y192 => (if 0 ≤ x5 then (if x5 ≤ (x0.length : Int) then (if y192.length + (x0.take (x5 : Int).toNat).length < 8796093022208 then ((some (y192 ++ (x0.take (x5 : Int).toNat) : List ByteArray)).bind fun y196 => (if y196.length < 8796093022208 then ((some (y196 ++ [x1] : List ByteArray)).bind fun y199 => (if y199.length + (x0.drop (x5 : Int).toNat).length < 8796093022208 then (some (y199 ++ (x0.drop (x5 : Int).toNat))) else (none))) else (none))) else (none)) else (none)) else (none)))
def selvedgeref14_put.f (k : Nat) (l0 : List ByteArray) (a1 : ByteArray) : Option (List ByteArray) := selvedgeref14_put.l0 k l0 a1 0
set_option maxHeartbeats 8000000 in
set_option maxRecDepth 100000 in
theorem selvedgeref14_put.calls (k : Nat) (A0 : Option Addr) (c0 : Nat) (l0 : List ByteArray) (a1 : ByteArray) (r : List ByteArray) (w : World) (hr0 : Kd.C Kd.string w A0 l0.length l0) (hc0 : l0.length ≤ c0) (h : selvedgeref14_put.f k l0 a1 = some r) :
  Calls Try.prog 56 #[.slice A0 l0.length c0, .string a1] w fun e w' => ∃ v0_ : Value, e = .returned (v0_) ∧ Kd.R Kd.string 9 w' w.heap.size (fun _ => True) v0_ r ∧ Below w.heap.size w w' := by
 have HR0 := Aside0.mk hr0
 have HC0 := Aside0.mk hc0
 clear hr0 hc0
 have HB := Aside0.mk (Below.refl w.heap.size w)
 have H : (selvedgeref14_put.l0 k l0 a1 0) = some r := h
 clear h
 have H' := Aside0.mk H
 clear H
 go_enter Try.func56, Try.ntmps56
 go_wp2
 go_loopg [5] k (fun kq v5 w' => ∃ (x5_1 : Int), v5 = .int .i64 x5_1 ∧ Aside0 (selvedgeref14_put.l0 kq l0 a1 x5_1 = some r) ∧ Aside0 (kq ≤ k) ∧ Aside0 (Below w.heap.size w w'))
 case atStart => exact ⟨(0), (by first | rfl | (simp; done) | (simp [*]; done)), H', ⟨Nat.le_refl _⟩, ⟨by repeat (first | (with_reducible first | exact HB.out | apply below_alloc | apply pw_below_drewN | apply below_drew1) | exact HB.out)⟩⟩
 case round =>
  clear H'
  try clear p2
  obtain ⟨x5_1, rfl, HA, HK1, HB⟩ := hrel
  cases gk with
  | zero => exact absurd HA.out (by simp [selvedgeref14_put.l0])
  | succ k1 =>
   have H := HA.out
   clear HA
   simp only [selvedgeref14_put.l0] at H
   by_cases c3 : x5_1 < (l0.length : Int)
   ·
    rw [if_pos c3] at H
    have c3b0 : decide (x5_1 < (l0.length : Int)) = true := decide_eq_true c3
    clear c3
    by_cases c4 : 0 ≤ x5_1
    ·
     rw [if_pos c4] at H
     have c4b0 : decide (0 ≤ x5_1) = true := decide_eq_true c4
     clear c4
     replace H := Option.bind_eq_some_iff.mp H
     obtain ⟨t177, A50, H⟩ := H
     replace H : (if t177 = true then ((some (([] : List ByteArray) : List ByteArray)).bind fun y178 => (if x5_1 ≤ (l0.length : Int) then (if y178.length + (l0.take (x5_1 : Int).toNat).length < 8796093022208 then ((some (y178 ++ (l0.take (x5_1 : Int).toNat) : List ByteArray)).bind fun y182 => (if y182.length < 8796093022208 then ((some (y182 ++ [a1] : List ByteArray)).bind fun y185 => (if y185.length + (l0.drop (x5_1 : Int).toNat).length < 8796093022208 then (some (y185 ++ (l0.drop (x5_1 : Int).toNat))) else (none))) else (none))) else (none)) else (none))) else (selvedgeref14_put.l0 k1 l0 a1 (wrap64 (x5_1 + 1)))) = some r := H
     have A5 := Aside0.mk A50
     clear A50
     by_cases c6 : t177 = true
     ·
      subst c6
      have H1 : ((some (([] : List ByteArray) : List ByteArray)).bind fun y178 => (if x5_1 ≤ (l0.length : Int) then (if y178.length + (l0.take (x5_1 : Int).toNat).length < 8796093022208 then ((some (y178 ++ (l0.take (x5_1 : Int).toNat) : List ByteArray)).bind fun y182 => (if y182.length < 8796093022208 then ((some (y182 ++ [a1] : List ByteArray)).bind fun y185 => (if y185.length + (l0.drop (x5_1 : Int).toNat).length < 8796093022208 then (some (y185 ++ (l0.drop (x5_1 : Int).toNat))) else (none))) else (none))) else (none)) else (none))) = some r := by rw [if_pos rfl] at H; exact H
      clear H
      have H := H1
      clear H1
      obtain ⟨y178, hy178⟩ : ∃ y_ : List ByteArray, y_ = (([] : List ByteArray)) := ⟨_, rfl⟩
      replace H : (if x5_1 ≤ (l0.length : Int) then (if y178.length + (l0.take (x5_1 : Int).toNat).length < 8796093022208 then ((some (y178 ++ (l0.take (x5_1 : Int).toNat) : List ByteArray)).bind fun y182 => (if y182.length < 8796093022208 then ((some (y182 ++ [a1] : List ByteArray)).bind fun y185 => (if y185.length + (l0.drop (x5_1 : Int).toNat).length < 8796093022208 then (some (y185 ++ (l0.drop (x5_1 : Int).toNat))) else (none))) else (none))) else (none)) else (none)) = some r := by first | (rw [hy178]; with_reducible exact H) | (have H2_ := (Option.bind_some _ _).symm.trans H; rw [hy178]; with_reducible exact H2_) | (have H2_ := (Option.bind_some _ _).symm.trans H; with_reducible exact H2_) | with_reducible exact H | (rw [hy178]; exact H) | exact H
      have Ny178 := Aside0.mk hy178
      clear hy178
      have c7b0 := eq_true (of_decide_eq_true (by first | (with_reducible assumption) | assumption) : 0 ≤ x5_1)
      by_cases c8 : x5_1 ≤ (l0.length : Int)
      ·
       rw [if_pos c8] at H
       have c8b0 := eq_true c8
       have c8b1 : decide (x5_1 ≤ (l0.length : Int)) = true := decide_eq_true c8
       clear c8
       by_cases c9 : y178.length + (l0.take (x5_1 : Int).toNat).length < 8796093022208
       ·
        rw [if_pos c9] at H
        have LMc9 := Aside0.mk c9
        clear c9
        obtain ⟨y182, hy182⟩ : ∃ y_ : List ByteArray, y_ = (y178 ++ (l0.take (x5_1 : Int).toNat)) := ⟨_, rfl⟩
        replace H : (if y182.length < 8796093022208 then ((some (y182 ++ [a1] : List ByteArray)).bind fun y185 => (if y185.length + (l0.drop (x5_1 : Int).toNat).length < 8796093022208 then (some (y185 ++ (l0.drop (x5_1 : Int).toNat))) else (none))) else (none)) = some r := by first | (rw [hy182]; with_reducible exact H) | (have H2_ := (Option.bind_some _ _).symm.trans H; rw [hy182]; with_reducible exact H2_) | (have H2_ := (Option.bind_some _ _).symm.trans H; with_reducible exact H2_) | with_reducible exact H | (rw [hy182]; exact H) | exact H
        have Ny182 := Aside0.mk hy182
        clear hy182
        by_cases c10 : y182.length < 8796093022208
        ·
         rw [if_pos c10] at H
         have LMc10 := Aside0.mk c10
         clear c10
         obtain ⟨y185, hy185⟩ : ∃ y_ : List ByteArray, y_ = (y182 ++ [a1]) := ⟨_, rfl⟩
         replace H : (if y185.length + (l0.drop (x5_1 : Int).toNat).length < 8796093022208 then (some (y185 ++ (l0.drop (x5_1 : Int).toNat))) else (none)) = some r := by first | (rw [hy185]; with_reducible exact H) | (have H2_ := (Option.bind_some _ _).symm.trans H; rw [hy185]; with_reducible exact H2_) | (have H2_ := (Option.bind_some _ _).symm.trans H; with_reducible exact H2_) | with_reducible exact H | (rw [hy185]; exact H) | exact H
         have Ny185 := Aside0.mk hy185
         clear hy185
         have c11b0 := eq_true (of_decide_eq_true (by first | (with_reducible assumption) | assumption) : 0 ≤ x5_1)
         have c12b0 := eq_true (of_decide_eq_true (by first | (with_reducible assumption) | assumption) : x5_1 ≤ (l0.length : Int))
         by_cases c13 : y185.length + (l0.drop (x5_1 : Int).toNat).length < 8796093022208
         ·
          rw [if_pos c13] at H
          have LMc13 := Aside0.mk c13
          clear c13
          obtain ⟨y189, hy189⟩ : ∃ y_ : List ByteArray, y_ = (y185 ++ (l0.drop (x5_1 : Int).toNat)) := ⟨_, rfl⟩
          replace H : (some y189) = some r := by first | (rw [hy189]; with_reducible exact H) | (have H2_ := (Option.bind_some _ _).symm.trans H; rw [hy189]; with_reducible exact H2_) | (have H2_ := (Option.bind_some _ _).symm.trans H; with_reducible exact H2_) | with_reducible exact H | (rw [hy189]; exact H) | exact H
          have Ny189 := Aside0.mk hy189
          clear hy189
          obtain rfl := Option.some.inj H
          have p176 : 0 ≤ (x5_1 : Int) := of_decide_eq_true (by first | (with_reducible assumption) | assumption)
          have q176 : x5_1 < (l0.length : Int) := of_decide_eq_true (by first | (with_reducible assumption) | assumption)
          obtain ⟨ad176, e176, hx176_0⟩ := Kd.at_string HR0.out x5_1 p176 q176
          cases e176
          replace hx176_0 := (HB.out.cell (World.block_lt_of_cell? w _ hx176_0)).trans hx176_0
          replace p176 := eq_true p176
          replace q176 := eq_true q176
          go_wp2_with (first | (go_at_call 85; (with_reducible refine (selvedgeref01_Less.calls k1 a1 (rdOf ByteArray.empty l0 x5_1) true _ A5.out).mono ?_); rintro e w' ⟨rfl, ⟨nd, rfl⟩⟩) | ((with_reducible refine gate_dst (N := 22) rfl ?_); refine Kd.R_lit Kd.string _ 9 ?hg (N := 22) ?hd (xs := ([] : List ByteArray)) (inner := []) (ok := fun _ => True) (okp := fun _ => True) ?hr ?hp (fun _ hk => hk) trivial (Below.refl _ _) (Nat.le_refl _) (by simp) ?_; (case hd => rfl); (case hg => rfl); (case hr => first | (go_simp; done) | (go_simp; rfl)); (case hp => exact (Reps.none _ _)); intro v179 w14 ho15 hb hg_ hnew_; clear hg_ hnew_; (first | rw [← Ny178.out] at ho15 | (simp only [Int.reduceToNat] at ho15; rw [← Ny178.out] at ho15)); have n0_ := Aside0.mk (Kd.R_lower ho15 (below_size (by repeat (first | (with_reducible first | exact HB.out | apply below_alloc | apply pw_below_drewN | apply below_drew1) | exact HB.out)))); have n1_ := Aside0.mk (below_step (by repeat (first | (with_reducible first | exact HB.out | apply below_alloc | apply pw_below_drewN | apply below_drew1) | exact HB.out)) hb); clear HB; have HO180 := n0_; have HB := n1_; clear n0_ n1_; clear hb ho15; obtain ⟨i016, hi016, _, hsz16, _⟩ := info_parts info9; obtain ⟨hcut16, hA16, hC16⟩ := print_take_of (P := Try.prog) Value.string (⟨#[]⟩ : ByteArray) 31 9 .i64 Try.underlying31 hi016 hsz16 (some ad176) c0 l0 x5_1 (of_decide_eq_true (by first | (with_reducible assumption) | assumption)) (of_decide_eq_true (by first | (with_reducible assumption) | assumption)) HC0.out; have HR181 := Aside0.mk (Kd.C_of_reads (h1 := fun _ => rfl) (hA16 _ (Kd.reads_of_C HR0.out))); have HC181 := Aside0.mk hC16; clear hA16 hC16 hi016 hsz16) | ((with_reducible refine gate_builtin (b := .append) (xs := #[.tmp 22, .tmp 25]) rfl ?_); at_builtin; refine Kd.R_append_rows Kd.string (w0 := w) w.heap.size rfl (.tmp 22) (.tmp 25) 31 9 (.string ⟨#[]⟩) 16 rfl Try.underlying31 info9 rfl (by decide) (by omega) v179 y178 (l0.take (x5_1 : Int).toNat) _ _ _ (fun _ => True) (fun _ => False) rfl rfl ?aO ?aR (fun _ _ h => h) (fun _ h => h.elim) ?aF ?aB ?aS ?aL ?_; (case aR => first | (have h1_ := (Kd.C_below HR181.out HB.out); rw [show (l0.take (x5_1 : Int).toNat).length = x5_1.toNat from (by rw [List.length_take]; have h_ : (x5_1 : Int) ≤ (l0.length : Int) := of_decide_eq_true (by first | (with_reducible assumption) | assumption); omega)] at h1_; exact h1_) | (rw [← show (l0.take (x5_1 : Int).toNat).length = x5_1.toNat from (by rw [List.length_take]; have h_ : (x5_1 : Int) ≤ (l0.length : Int) := of_decide_eq_true (by first | (with_reducible assumption) | assumption); omega)]; repeat (first | exact (Kd.C_below HR181.out HB.out) | (with_reducible refine Kd.C_alloc ?_ _) | (with_reducible refine Kd.C_drewN ?_ _) | (with_reducible refine Kd.C_drew ?_))) | (repeat (first | exact (Kd.C_below HR181.out HB.out) | (with_reducible refine Kd.C_alloc ?_ _) | (with_reducible refine Kd.C_drewN ?_ _) | (with_reducible refine Kd.C_drew ?_)))); (case aB => exact (by repeat (first | (with_reducible first | exact HB.out | apply below_alloc | apply pw_below_drewN | apply below_drew1) | exact HB.out))); (case aF => exact (fun _ _ => trivial)); (case aO => exact (Kd.pR HO180.out)); (case aS => exact (below_size (by repeat (first | (with_reducible first | exact HB.out | apply below_alloc | apply pw_below_drewN | apply below_drew1) | exact HB.out)))); (case aL => have := LMc9.out; have hlx_ := (show (l0.take (x5_1 : Int).toNat).length = x5_1.toNat from (by rw [List.length_take]; have h_ : (x5_1 : Int) ≤ (l0.length : Int) := of_decide_eq_true (by first | (with_reducible assumption) | assumption); omega)); omega); intro v183 w17 ho hb hg hat; rw [← Ny182.out] at ho; have n0_ := Aside0.mk (hb); have n1_ := Aside0.mk (ho); clear HB; clear HO180; have HB := n0_; have HO184 := n1_; clear n0_ n1_; clear ho hb hg hat) | ((with_reducible refine gate_builtin (b := .append) (xs := #[.tmp 27, .tmp 29]) rfl ?_); at_builtin; refine Kd.R_append Kd.string (w0 := w) w.heap.size rfl (.tmp 27) (.tmp 29) 31 9 (.string ⟨#[]⟩) 16 rfl Try.underlying31 info9 rfl (by decide) (by omega) v183 y182 a1 [.string a1] (fun _ => True) (fun _ => False) rfl rfl ?aP (fun _ hk => hk.elim) ?aF ?aO ?aB ?aS ?aL ?_; (case aP => exact rfl); (case aB => exact (by repeat (first | (with_reducible first | exact HB.out | apply below_alloc | apply pw_below_drewN | apply below_drew1) | exact HB.out))); (case aF => exact (fun _ _ => trivial)); (case aO => exact (Kd.pR HO184.out)); (case aS => exact (below_size (by repeat (first | (with_reducible first | exact HB.out | apply below_alloc | apply pw_below_drewN | apply below_drew1) | exact HB.out)))); (case aL => have := LMc10.out; omega); intro v186 w18 ho hb hg hat; rw [← Ny185.out] at ho; have n0_ := Aside0.mk (hb); have n1_ := Aside0.mk (ho); clear HB; clear HO184; have HB := n0_; have HO187 := n1_; clear n0_ n1_; clear ho hb hg hat; obtain ⟨i019, hi019, _, hsz19, _⟩ := info_parts info9; obtain ⟨A19, hcut19, hA19, hC19⟩ := print_drop_of (P := Try.prog) Value.string (⟨#[]⟩ : ByteArray) 31 9 .i64 Try.underlying31 hi019 hsz19 (some ad176) c0 l0 x5_1 (of_decide_eq_true (by first | (with_reducible assumption) | assumption)) (of_decide_eq_true (by first | (with_reducible assumption) | assumption)) HC0.out; have HR188 := Aside0.mk (Kd.C_of_reads (h1 := fun _ => rfl) (hA19 _ (Kd.reads_of_C HR0.out))); have HC188 := Aside0.mk hC19; clear hA19 hC19 hi019 hsz19) | ((with_reducible refine gate_builtin (b := .append) (xs := #[.tmp 31, .tmp 34]) rfl ?_); at_builtin; refine Kd.R_append_rows Kd.string (w0 := w) w.heap.size rfl (.tmp 31) (.tmp 34) 31 9 (.string ⟨#[]⟩) 16 rfl Try.underlying31 info9 rfl (by decide) (by omega) v186 y185 (l0.drop (x5_1 : Int).toNat) _ _ _ (fun _ => True) (fun _ => False) rfl rfl ?aO ?aR (fun _ _ h => h) (fun _ h => h.elim) ?aF ?aB ?aS ?aL ?_; (case aR => first | (rw [← show (l0.drop (x5_1 : Int).toNat).length = (l0.length - x5_1.toNat) from List.length_drop]; repeat (first | exact (Kd.C_below HR188.out HB.out) | (with_reducible refine Kd.C_alloc ?_ _) | (with_reducible refine Kd.C_drewN ?_ _) | (with_reducible refine Kd.C_drew ?_))) | (repeat (first | exact (Kd.C_below HR188.out HB.out) | (with_reducible refine Kd.C_alloc ?_ _) | (with_reducible refine Kd.C_drewN ?_ _) | (with_reducible refine Kd.C_drew ?_)))); (case aB => exact (by repeat (first | (with_reducible first | exact HB.out | apply below_alloc | apply pw_below_drewN | apply below_drew1) | exact HB.out))); (case aF => exact (fun _ _ => trivial)); (case aO => exact (Kd.pR HO187.out)); (case aS => exact (below_size (by repeat (first | (with_reducible first | exact HB.out | apply below_alloc | apply pw_below_drewN | apply below_drew1) | exact HB.out)))); (case aL => have := LMc13.out; have hlx_ := (show (l0.drop (x5_1 : Int).toNat).length = (l0.length - x5_1.toNat) from List.length_drop); omega); intro v190 w20 ho hb hg hat; rw [← Ny189.out] at ho; have n0_ := Aside0.mk (hb); have n1_ := Aside0.mk (ho); clear HB; clear HO187; have HB := n0_; have HO191 := n1_; clear n0_ n1_; clear ho hb hg hat))
          go_ret
          exact ⟨_, by first | rfl | (simp [errW_none, errW_some] <;> rfl) | (simp [*, errW_none, errW_some] <;> rfl), by (with_reducible repeat (first | apply Kd.R_alloc | apply Kd.R_drewN | apply Kd.R_drew)); exact HO191.out, by repeat (first | (with_reducible first | exact HB.out | apply below_alloc | apply pw_below_drewN | apply below_drew1) | exact HB.out)⟩
         ·
          rw [if_neg c13] at H
          exact absurd H (by simp)
        ·
         rw [if_neg c10] at H
         exact absurd H (by simp)
       ·
        rw [if_neg c9] at H
        exact absurd H (by simp)
      ·
       rw [if_neg c8] at H
       exact absurd H (by simp)
     ·
      replace c6 := Bool.eq_false_iff.mpr c6
      subst c6
      have H1 : (selvedgeref14_put.l0 k1 l0 a1 (wrap64 (x5_1 + 1))) = some r := by rw [if_neg (show ¬ (false = true) by decide)] at H; exact H
      clear H
      have H := H1
      clear H1
      have H' := Aside0.mk H
      clear H
      have p176 : 0 ≤ (x5_1 : Int) := of_decide_eq_true (by first | (with_reducible assumption) | assumption)
      have q176 : x5_1 < (l0.length : Int) := of_decide_eq_true (by first | (with_reducible assumption) | assumption)
      obtain ⟨ad176, e176, hx176_0⟩ := Kd.at_string HR0.out x5_1 p176 q176
      cases e176
      replace hx176_0 := (HB.out.cell (World.block_lt_of_cell? w _ hx176_0)).trans hx176_0
      replace p176 := eq_true p176
      replace q176 := eq_true q176
      go_wp2_with (first | (go_at_call 85; (with_reducible refine (selvedgeref01_Less.calls k1 a1 (rdOf ByteArray.empty l0 x5_1) false _ A5.out).mono ?_); rintro e w' ⟨rfl, ⟨nd, rfl⟩⟩))
      go_roundg k1
      case measure => have := HK1.out; omega
      case rel => exact ⟨(wrap64 (x5_1 + 1)), (by first | rfl | (simp; done) | (simp [*]; done)), H', ⟨by have := HK1.out; omega⟩, ⟨by repeat (first | (with_reducible first | exact HB.out | apply below_alloc | apply pw_below_drewN | apply below_drew1) | exact HB.out)⟩⟩
    ·
     rw [if_neg c4] at H
     exact absurd H (by simp)
   ·
    rw [if_neg c3] at H
    have c3b0 : decide (x5_1 < (l0.length : Int)) = false := decide_eq_false c3
    clear c3
    obtain ⟨y192, hy192⟩ : ∃ y_ : List ByteArray, y_ = (([] : List ByteArray)) := ⟨_, rfl⟩
    replace H : (if 0 ≤ x5_1 then (if x5_1 ≤ (l0.length : Int) then (if y192.length + (l0.take (x5_1 : Int).toNat).length < 8796093022208 then ((some (y192 ++ (l0.take (x5_1 : Int).toNat) : List ByteArray)).bind fun y196 => (if y196.length < 8796093022208 then ((some (y196 ++ [a1] : List ByteArray)).bind fun y199 => (if y199.length + (l0.drop (x5_1 : Int).toNat).length < 8796093022208 then (some (y199 ++ (l0.drop (x5_1 : Int).toNat))) else (none))) else (none))) else (none)) else (none)) else (none)) = some r := by first | (rw [hy192]; with_reducible exact H) | (have H2_ := (Option.bind_some _ _).symm.trans H; rw [hy192]; with_reducible exact H2_) | (have H2_ := (Option.bind_some _ _).symm.trans H; with_reducible exact H2_) | with_reducible exact H | (rw [hy192]; exact H) | exact H
    have Ny192 := Aside0.mk hy192
    clear hy192
    by_cases c21 : 0 ≤ x5_1
    ·
     rw [if_pos c21] at H
     have c21b0 := eq_true c21
     have c21b1 : decide (0 ≤ x5_1) = true := decide_eq_true c21
     clear c21
     by_cases c22 : x5_1 ≤ (l0.length : Int)
     ·
      rw [if_pos c22] at H
      have c22b0 := eq_true c22
      have c22b1 : decide (x5_1 ≤ (l0.length : Int)) = true := decide_eq_true c22
      clear c22
      by_cases c23 : y192.length + (l0.take (x5_1 : Int).toNat).length < 8796093022208
      ·
       rw [if_pos c23] at H
       have LMc23 := Aside0.mk c23
       clear c23
       obtain ⟨y196, hy196⟩ : ∃ y_ : List ByteArray, y_ = (y192 ++ (l0.take (x5_1 : Int).toNat)) := ⟨_, rfl⟩
       replace H : (if y196.length < 8796093022208 then ((some (y196 ++ [a1] : List ByteArray)).bind fun y199 => (if y199.length + (l0.drop (x5_1 : Int).toNat).length < 8796093022208 then (some (y199 ++ (l0.drop (x5_1 : Int).toNat))) else (none))) else (none)) = some r := by first | (rw [hy196]; with_reducible exact H) | (have H2_ := (Option.bind_some _ _).symm.trans H; rw [hy196]; with_reducible exact H2_) | (have H2_ := (Option.bind_some _ _).symm.trans H; with_reducible exact H2_) | with_reducible exact H | (rw [hy196]; exact H) | exact H
       have Ny196 := Aside0.mk hy196
       clear hy196
       by_cases c24 : y196.length < 8796093022208
       ·
        rw [if_pos c24] at H
        have LMc24 := Aside0.mk c24
        clear c24
        obtain ⟨y199, hy199⟩ : ∃ y_ : List ByteArray, y_ = (y196 ++ [a1]) := ⟨_, rfl⟩
        replace H : (if y199.length + (l0.drop (x5_1 : Int).toNat).length < 8796093022208 then (some (y199 ++ (l0.drop (x5_1 : Int).toNat))) else (none)) = some r := by first | (rw [hy199]; with_reducible exact H) | (have H2_ := (Option.bind_some _ _).symm.trans H; rw [hy199]; with_reducible exact H2_) | (have H2_ := (Option.bind_some _ _).symm.trans H; with_reducible exact H2_) | with_reducible exact H | (rw [hy199]; exact H) | exact H
        have Ny199 := Aside0.mk hy199
        clear hy199
        have c25b0 := eq_true (of_decide_eq_true (by first | (with_reducible assumption) | assumption) : 0 ≤ x5_1)
        have c26b0 := eq_true (of_decide_eq_true (by first | (with_reducible assumption) | assumption) : x5_1 ≤ (l0.length : Int))
        by_cases c27 : y199.length + (l0.drop (x5_1 : Int).toNat).length < 8796093022208
        ·
         rw [if_pos c27] at H
         have LMc27 := Aside0.mk c27
         clear c27
         obtain ⟨y203, hy203⟩ : ∃ y_ : List ByteArray, y_ = (y199 ++ (l0.drop (x5_1 : Int).toNat)) := ⟨_, rfl⟩
         replace H : (some y203) = some r := by first | (rw [hy203]; with_reducible exact H) | (have H2_ := (Option.bind_some _ _).symm.trans H; rw [hy203]; with_reducible exact H2_) | (have H2_ := (Option.bind_some _ _).symm.trans H; with_reducible exact H2_) | with_reducible exact H | (rw [hy203]; exact H) | exact H
         have Ny203 := Aside0.mk hy203
         clear hy203
         obtain rfl := Option.some.inj H
         go_wp2_with (first | ((with_reducible refine gate_dst (N := 22) rfl ?_); refine Kd.R_lit Kd.string _ 9 ?hg (N := 22) ?hd (xs := ([] : List ByteArray)) (inner := []) (ok := fun _ => True) (okp := fun _ => True) ?hr ?hp (fun _ hk => hk) trivial (Below.refl _ _) (Nat.le_refl _) (by simp) ?_; (case hd => rfl); (case hg => rfl); (case hr => first | (go_simp; done) | (go_simp; rfl)); (case hp => exact (Reps.none _ _)); intro v193 w28 ho29 hb hg_ hnew_; clear hg_ hnew_; (first | rw [← Ny192.out] at ho29 | (simp only [Int.reduceToNat] at ho29; rw [← Ny192.out] at ho29)); have n0_ := Aside0.mk (Kd.R_lower ho29 (below_size (by repeat (first | (with_reducible first | exact HB.out | apply below_alloc | apply pw_below_drewN | apply below_drew1) | exact HB.out)))); have n1_ := Aside0.mk (below_step (by repeat (first | (with_reducible first | exact HB.out | apply below_alloc | apply pw_below_drewN | apply below_drew1) | exact HB.out)) hb); clear HB; have HO194 := n0_; have HB := n1_; clear n0_ n1_; clear hb ho29; obtain ⟨i030, hi030, _, hsz30, _⟩ := info_parts info9; obtain ⟨hcut30, hA30, hC30⟩ := print_take_of (P := Try.prog) Value.string (⟨#[]⟩ : ByteArray) 31 9 .i64 Try.underlying31 hi030 hsz30 A0 c0 l0 x5_1 (of_decide_eq_true (by first | (with_reducible assumption) | assumption)) (of_decide_eq_true (by first | (with_reducible assumption) | assumption)) HC0.out; have HR195 := Aside0.mk (Kd.C_of_reads (h1 := fun _ => rfl) (hA30 _ (Kd.reads_of_C HR0.out))); have HC195 := Aside0.mk hC30; clear hA30 hC30 hi030 hsz30) | ((with_reducible refine gate_builtin (b := .append) (xs := #[.tmp 22, .tmp 25]) rfl ?_); at_builtin; refine Kd.R_append_rows Kd.string (w0 := w) w.heap.size rfl (.tmp 22) (.tmp 25) 31 9 (.string ⟨#[]⟩) 16 rfl Try.underlying31 info9 rfl (by decide) (by omega) v193 y192 (l0.take (x5_1 : Int).toNat) _ _ _ (fun _ => True) (fun _ => False) rfl rfl ?aO ?aR (fun _ _ h => h) (fun _ h => h.elim) ?aF ?aB ?aS ?aL ?_; (case aR => first | (have h1_ := (Kd.C_below HR195.out HB.out); rw [show (l0.take (x5_1 : Int).toNat).length = x5_1.toNat from (by rw [List.length_take]; have h_ : (x5_1 : Int) ≤ (l0.length : Int) := of_decide_eq_true (by first | (with_reducible assumption) | assumption); omega)] at h1_; exact h1_) | (rw [← show (l0.take (x5_1 : Int).toNat).length = x5_1.toNat from (by rw [List.length_take]; have h_ : (x5_1 : Int) ≤ (l0.length : Int) := of_decide_eq_true (by first | (with_reducible assumption) | assumption); omega)]; repeat (first | exact (Kd.C_below HR195.out HB.out) | (with_reducible refine Kd.C_alloc ?_ _) | (with_reducible refine Kd.C_drewN ?_ _) | (with_reducible refine Kd.C_drew ?_))) | (repeat (first | exact (Kd.C_below HR195.out HB.out) | (with_reducible refine Kd.C_alloc ?_ _) | (with_reducible refine Kd.C_drewN ?_ _) | (with_reducible refine Kd.C_drew ?_)))); (case aB => exact (by repeat (first | (with_reducible first | exact HB.out | apply below_alloc | apply pw_below_drewN | apply below_drew1) | exact HB.out))); (case aF => exact (fun _ _ => trivial)); (case aO => exact (Kd.pR HO194.out)); (case aS => exact (below_size (by repeat (first | (with_reducible first | exact HB.out | apply below_alloc | apply pw_below_drewN | apply below_drew1) | exact HB.out)))); (case aL => have := LMc23.out; have hlx_ := (show (l0.take (x5_1 : Int).toNat).length = x5_1.toNat from (by rw [List.length_take]; have h_ : (x5_1 : Int) ≤ (l0.length : Int) := of_decide_eq_true (by first | (with_reducible assumption) | assumption); omega)); omega); intro v197 w31 ho hb hg hat; rw [← Ny196.out] at ho; have n0_ := Aside0.mk (hb); have n1_ := Aside0.mk (ho); clear HB; clear HO194; have HB := n0_; have HO198 := n1_; clear n0_ n1_; clear ho hb hg hat) | ((with_reducible refine gate_builtin (b := .append) (xs := #[.tmp 27, .tmp 29]) rfl ?_); at_builtin; refine Kd.R_append Kd.string (w0 := w) w.heap.size rfl (.tmp 27) (.tmp 29) 31 9 (.string ⟨#[]⟩) 16 rfl Try.underlying31 info9 rfl (by decide) (by omega) v197 y196 a1 [.string a1] (fun _ => True) (fun _ => False) rfl rfl ?aP (fun _ hk => hk.elim) ?aF ?aO ?aB ?aS ?aL ?_; (case aP => exact rfl); (case aB => exact (by repeat (first | (with_reducible first | exact HB.out | apply below_alloc | apply pw_below_drewN | apply below_drew1) | exact HB.out))); (case aF => exact (fun _ _ => trivial)); (case aO => exact (Kd.pR HO198.out)); (case aS => exact (below_size (by repeat (first | (with_reducible first | exact HB.out | apply below_alloc | apply pw_below_drewN | apply below_drew1) | exact HB.out)))); (case aL => have := LMc24.out; omega); intro v200 w32 ho hb hg hat; rw [← Ny199.out] at ho; have n0_ := Aside0.mk (hb); have n1_ := Aside0.mk (ho); clear HB; clear HO198; have HB := n0_; have HO201 := n1_; clear n0_ n1_; clear ho hb hg hat; obtain ⟨i033, hi033, _, hsz33, _⟩ := info_parts info9; obtain ⟨A33, hcut33, hA33, hC33⟩ := print_drop_of (P := Try.prog) Value.string (⟨#[]⟩ : ByteArray) 31 9 .i64 Try.underlying31 hi033 hsz33 A0 c0 l0 x5_1 (of_decide_eq_true (by first | (with_reducible assumption) | assumption)) (of_decide_eq_true (by first | (with_reducible assumption) | assumption)) HC0.out; have HR202 := Aside0.mk (Kd.C_of_reads (h1 := fun _ => rfl) (hA33 _ (Kd.reads_of_C HR0.out))); have HC202 := Aside0.mk hC33; clear hA33 hC33 hi033 hsz33) | ((with_reducible refine gate_builtin (b := .append) (xs := #[.tmp 31, .tmp 34]) rfl ?_); at_builtin; refine Kd.R_append_rows Kd.string (w0 := w) w.heap.size rfl (.tmp 31) (.tmp 34) 31 9 (.string ⟨#[]⟩) 16 rfl Try.underlying31 info9 rfl (by decide) (by omega) v200 y199 (l0.drop (x5_1 : Int).toNat) _ _ _ (fun _ => True) (fun _ => False) rfl rfl ?aO ?aR (fun _ _ h => h) (fun _ h => h.elim) ?aF ?aB ?aS ?aL ?_; (case aR => first | (rw [← show (l0.drop (x5_1 : Int).toNat).length = (l0.length - x5_1.toNat) from List.length_drop]; repeat (first | exact (Kd.C_below HR202.out HB.out) | (with_reducible refine Kd.C_alloc ?_ _) | (with_reducible refine Kd.C_drewN ?_ _) | (with_reducible refine Kd.C_drew ?_))) | (repeat (first | exact (Kd.C_below HR202.out HB.out) | (with_reducible refine Kd.C_alloc ?_ _) | (with_reducible refine Kd.C_drewN ?_ _) | (with_reducible refine Kd.C_drew ?_)))); (case aB => exact (by repeat (first | (with_reducible first | exact HB.out | apply below_alloc | apply pw_below_drewN | apply below_drew1) | exact HB.out))); (case aF => exact (fun _ _ => trivial)); (case aO => exact (Kd.pR HO201.out)); (case aS => exact (below_size (by repeat (first | (with_reducible first | exact HB.out | apply below_alloc | apply pw_below_drewN | apply below_drew1) | exact HB.out)))); (case aL => have := LMc27.out; have hlx_ := (show (l0.drop (x5_1 : Int).toNat).length = (l0.length - x5_1.toNat) from List.length_drop); omega); intro v204 w34 ho hb hg hat; rw [← Ny203.out] at ho; have n0_ := Aside0.mk (hb); have n1_ := Aside0.mk (ho); clear HB; clear HO201; have HB := n0_; have HO205 := n1_; clear n0_ n1_; clear ho hb hg hat))
         go_ret
         exact ⟨_, by first | rfl | (simp [errW_none, errW_some] <;> rfl) | (simp [*, errW_none, errW_some] <;> rfl), by (with_reducible repeat (first | apply Kd.R_alloc | apply Kd.R_drewN | apply Kd.R_drew)); exact HO205.out, by repeat (first | (with_reducible first | exact HB.out | apply below_alloc | apply pw_below_drewN | apply below_drew1) | exact HB.out)⟩
        ·
         rw [if_neg c27] at H
         exact absurd H (by simp)
       ·
        rw [if_neg c24] at H
        exact absurd H (by simp)
      ·
       rw [if_neg c23] at H
       exact absurd H (by simp)
     ·
      rw [if_neg c22] at H
      exact absurd H (by simp)
    ·
     rw [if_neg c21] at H
     exact absurd H (by simp)

end Go.Proofs.Ytcbfnmabckjijaa.POrderBehind
