-- written by a program of this session (pp.py), out of the kit's print and this session's contracts
import Derived.Test.YtcbfnmabckjijaaPOrderTurnsx0
import Derived.Test.YtcbfnmabckjijaaVOrderTurnsPg
namespace Go.Proofs.Ytcbfnmabckjijaa.POrderTurns
open Go.RowKit Go.Proofs.YtcbfnmabckjijaaW.PrintWords Go.Proofs.YtcbfnmabckjijaaW.PrintLast Go.Proofs.YtcbfnmabckjijaaW.PrintMore
set_option linter.unusedVariables false
set_option linter.unusedSimpArgs false

def selvedgeref11_Find.l0 : Nat → ByteArray → Int → Int → Int → List (S37) → Option (ByteArray × Int × Int × (List (S129)) × List ByteArray × Int × Int × Bool)
 | 0, _, _, _, _, _ => none
 | k + 1, x1, x6, x221000, x221001, x221002 => if x6 < (x221002.length : Int) then (if 0 ≤ x6 then (if ((rd_T37 x221002 x6).f0).toList = x1.toList then (some ((rd_T37 x221002 x6).f0, (rd_T37 x221002 x6).f1.f0, (rd_T37 x221002 x6).f1.f1, (rd_T37 x221002 x6).f1.f2, (rd_T37 x221002 x6).f1.f3, (rd_T37 x221002 x6).f1.f4.f0, (rd_T37 x221002 x6).f1.f4.f1, true)) else (selvedgeref11_Find.l0 k x1 (wrap64 (x6 + 1)) x221000 x221001 x221002)) else (none)) else (some ((⟨#[]⟩ : ByteArray), 0, 0, ([] : List (S129)), ([] : List ByteArray), 0, 0, false))
def selvedgeref11_Find.f (k : Nat) (a0_0 : Int) (a0_1 : Int) (l0_2 : List (S37)) (a1 : ByteArray) : Option (ByteArray × Int × Int × (List (S129)) × List ByteArray × Int × Int × Bool) := selvedgeref11_Find.l0 k a1 0 a0_0 a0_1 l0_2
set_option maxHeartbeats 8000000 in
set_option maxRecDepth 100000 in
theorem selvedgeref11_Find.calls (k : Nat) (a0_0 : Int) (a0_1 : Int) (P0_2_ : Nat → Prop) (A0_2 : Option Addr) (c0_2 : Nat) (l0_2 : List (S37)) (a1 : ByteArray) (r1 : ByteArray) (r2 : Int) (r3 : Int) (r4 : List (S129)) (r5 : List ByteArray) (r6 : Int) (r7 : Int) (r8 : Bool) (w : World) (hs0_2 : Kd.V k37 37 w w.heap.size (fun k_ => P0_2_ k_) (.slice A0_2 l0_2.length c0_2) l0_2) (h : selvedgeref11_Find.f k a0_0 a0_1 l0_2 a1 = some (r1, r2, r3, r4, r5, r6, r7, r8)) :
  Calls Try.prog 31 #[.agg #[.int .i64 a0_0, .int .i64 a0_1, .slice A0_2 l0_2.length c0_2], .string a1] w fun e w' => ∃ v3_ v4_ : Value, e = .returned (.tuple #[.agg #[.string r1, .int .i64 r2, .int .i64 r3, v3_, v4_, .int .i64 r6, .int .i64 r7], .bool r8]) ∧ Kd.V k129 129 w' w.heap.size (fun k_ => (P0_2_ k_ ∨ w.heap.size ≤ k_)) v3_ r4 ∧ Kd.V Kd.string 9 w' w.heap.size (fun k_ => (P0_2_ k_ ∨ w.heap.size ≤ k_)) v4_ r5 ∧ Below w.heap.size w w' := by
 have hu24 := Try.underlying24
 have hu37 := Try.underlying37
 have HO0_2 := am_ (show Kd.V k37 37 w w.heap.size (fun k_ => (P0_2_ k_ ∨ w.heap.size ≤ k_)) (.slice A0_2 l0_2.length c0_2) l0_2 from Kd.V_mono hs0_2 (fun k_ hk => .inl hk))
 have HB := am_ (Below.refl w.heap.size w)
 have H : (selvedgeref11_Find.l0 k a1 0 a0_0 a0_1 l0_2) = some (r1, r2, r3, r4, r5, r6, r7, r8) := h
 clear h
 have H' := am_ H
 clear H
 go_enter Try.func31, Try.ntmps31
 go_wp2_with (first | ((with_reducible refine gate_dst (N := 2) rfl ?_); refine box_event ?hg (N := 2) ?hd (cs := #[.int .i64 a0_0, .int .i64 a0_1, .slice A0_2 l0_2.length c0_2]) (t := 24) ?hr ?_; (case hd => rfl); (case hg => rfl); (case hr => first | (go_simp; done) | (go_simp; rfl)); intro gb220 hg w3 hbox hb; replace HO0_2 := tVe HO0_2 hg hb; have BK220 := am_ hbox; have GW220 := tG HB hg; have GE220 := tG HB hg; replace HB := tHb HB hb; clear hb hbox hg) | ((with_reducible refine gate_dst (N := 4) rfl ?_); refine box_event ?hg (N := 4) ?hd (cs := #[.string (⟨#[]⟩ : ByteArray), .int .i64 0, .int .i64 0, .slice none 0 0, .slice none 0 0, .int .i64 0, .int .i64 0]) (t := 37) ?hr ?_; (case hd => rfl); (case hg => rfl); (case hr => first | (go_simp; done) | (go_simp; rfl)); intro gb221 hg w4 hbox hb; replace HO0_2 := tVe HO0_2 hg hb; have BK221 := am_ hbox; have GW221 := tG HB hg; have GE221 := tG HB hg; replace HB := tHb HB hb; have NB220_221 := tL BK220 hg; have NB221_220 := tR BK220 hg; replace BK220 := tBb BK220 hb; clear hb hbox hg))
 go_loopg [6] k (fun kq v6 w' => ∃ (x6_1 : Int) (x222000_1 : ByteArray) (x222001_1 : Int) (x222002_1 : Int) (x222005_1 : Int) (x222006_1 : Int), v6 = .int .i64 x6_1 ∧ Asc (selvedgeref11_Find.l0 kq a1 x6_1 a0_0 a0_1 l0_2 = some (r1, r2, r3, r4, r5, r6, r7, r8)) ∧ Asc (kq ≤ k) ∧ Asc (Kd.V k37 37 w' w.heap.size (fun k_ => (P0_2_ k_ ∨ w.heap.size ≤ k_) ∧ k_ ≠ gb220 ∧ k_ ≠ gb221) (.slice A0_2 l0_2.length c0_2) l0_2) ∧ Asc (w'.heap[gb220]? = some (.cells #[.int .i64 a0_0, .int .i64 a0_1, (.slice A0_2 l0_2.length c0_2)] 24 (0, 0))) ∧ Asc (w'.heap[gb221]? = some (.cells #[.string x222000_1, .int .i64 x222001_1, .int .i64 x222002_1, (.slice none 0 0), (.slice none 0 0), .int .i64 x222005_1, .int .i64 x222006_1] 37 (0, 0))) ∧ Asc (Below w.heap.size w w'))
 case atStart => exact ⟨(0), ((⟨#[]⟩ : ByteArray)), (0), (0), (0), (0), (by first | rfl | (simp; done) | (simp [*]; done)), H', ⟨Nat.le_refl _⟩, ⟨gV HO0_2⟩, ⟨gB BK220⟩, ⟨gB BK221⟩, ⟨bh HB⟩⟩
 case round =>
  clear H'
  obtain ⟨x6_1, x222000_1, x222001_1, x222002_1, x222005_1, x222006_1, rfl, HA, HK1, HO_221002, BK220, BK221, HB⟩ := hrel
  cases gk with
  | zero => exact absurd HA.out (by simp [selvedgeref11_Find.l0])
  | succ k1 =>
   have H := HA.out
   clear HA
   simp only [selvedgeref11_Find.l0] at H
   by_cases c5 : x6_1 < (l0_2.length : Int)
   ·
    rw [if_pos c5] at H
    have c5b0 : decide (x6_1 < (l0_2.length : Int)) = true := decide_eq_true c5
    clear c5
    revert H
    refine gi (fun c6b0 H => ?_)
    by_cases c7 : ((rd_T37 l0_2 x6_1).f0).toList = a1.toList
    ·
     rw [if_pos c7] at H
     have c7b0 : (((rd_T37 l0_2 x6_1).f0).toList == a1.toList) = true := beq_iff_eq.mpr c7
     have c7b1 : (((rd_T37 l0_2 x6_1).f0).toList != a1.toList) = false := bne_eq_false_iff_eq.mpr c7
     clear c7
     simp only [Option.some.injEq, Prod.mk.injEq] at H
     obtain ⟨rfl, rfl, rfl, rfl, rfl, rfl, rfl, rfl⟩ := H
     have hnb8 := NB220_221.out
     have hnc8 := NB221_220.out
     obtain ⟨hcz9_0, hcz9_1, hcz9_2, hfz9_0, hfz9_1, hfz9_2⟩ := bx3 BK220
     have p222 : 0 ≤ (x6_1 : Int) := of_decide_eq_true ‹_›
     have q222 : x6_1 < (l0_2.length : Int) := of_decide_eq_true ‹_›
     obtain ⟨ad222, A222_3, c222_3, A222_4, c222_4, e222, hx222_0, hx222_1, hx222_2, hx222_3, hx222_4, hx222_5, hx222_6, hl222_3, hi222_3, hl222_4, hi222_4⟩ := at_T37 (Kd.V_reads' HO_221002.out).2.2 x6_1 p222 q222
     cases e222
     obtain ⟨ce222, hce222, hMe222, hcc222⟩ := Kd.V_get HO_221002.out z37 x6_1 p222 (by first | exact q222 | exact of_decide_eq_true ‹_› | (have e_ := (Kd.V_reads' HO_221002.out).1; omega))
     obtain ⟨ua222_3, uc222_3, ua222_4, uc222_4, rfl, ul222_3, ge222_3, ul222_4, ge222_4⟩ := k37_openF hMe222
     have hv222_3 := hcc222 3 _ rfl
     rw [add_field _ _ 3 (by omega)] at hv222_3
     replace hv222_3 := Option.some.inj (hv222_3.symm.trans hx222_3)
     injection hv222_3 with hva_ hvn_ hvc_
     rw [hva_] at ge222_3
     rw [hvc_] at ul222_3
     have HL222_3 := am_ (show Kd.V k129 129 _ w.heap.size _ _ ((rd_T37 l0_2 x6_1).f1.f2) from Kd.V_mk ul222_3 ge222_3)
     clear hva_ hvn_ hvc_ ge222_3 ul222_3
     have hv222_4 := hcc222 4 _ rfl
     rw [add_field _ _ 4 (by omega)] at hv222_4
     replace hv222_4 := Option.some.inj (hv222_4.symm.trans hx222_4)
     injection hv222_4 with hva_ hvn_ hvc_
     rw [hva_] at ge222_4
     rw [hvc_] at ul222_4
     have HL222_4 := am_ (show Kd.V Kd.string 9 _ w.heap.size _ _ ((rd_T37 l0_2 x6_1).f1.f3) from Kd.V_mk ul222_4 ge222_4)
     clear hva_ hvn_ hvc_ ge222_4 ul222_4 hcc222 hce222
     have HR222_3 := am_ hi222_3
     have HC222_3 := am_ hl222_3
     clear hi222_3 hl222_3
     have HR222_4 := am_ hi222_4
     have HC222_4 := am_ hl222_4
     clear hi222_4 hl222_4
     replace p222 := eq_true p222
     replace q222 := eq_true q222
     have p223 : 0 ≤ (x6_1 : Int) := of_decide_eq_true ‹_›
     have q223 : x6_1 < (l0_2.length : Int) := of_decide_eq_true ‹_›
     obtain ⟨ad223, A223_3, c223_3, A223_4, c223_4, e223, hx223_0, hx223_1, hx223_2, hx223_3, hx223_4, hx223_5, hx223_6, hl223_3, hi223_3, hl223_4, hi223_4⟩ := at_T37 (Kd.V_reads' HO_221002.out).2.2 x6_1 p223 q223
     obtain rfl : ad222 = ad223 := (by injection e223)
     obtain ⟨ce223, hce223, hMe223, hcc223⟩ := Kd.V_get HO_221002.out z37 x6_1 p223 (by first | exact q223 | exact of_decide_eq_true ‹_› | (have e_ := (Kd.V_reads' HO_221002.out).1; omega))
     obtain ⟨ua223_3, uc223_3, ua223_4, uc223_4, rfl, ul223_3, ge223_3, ul223_4, ge223_4⟩ := k37_openF hMe223
     have hv223_3 := hcc223 3 _ rfl
     rw [add_field _ _ 3 (by omega)] at hv223_3
     replace hv223_3 := Option.some.inj (hv223_3.symm.trans hx223_3)
     injection hv223_3 with hva_ hvn_ hvc_
     rw [hva_] at ge223_3
     rw [hvc_] at ul223_3
     have HL223_3 := am_ (show Kd.V k129 129 _ w.heap.size _ _ ((rd_T37 l0_2 x6_1).f1.f2) from Kd.V_mk ul223_3 ge223_3)
     clear hva_ hvn_ hvc_ ge223_3 ul223_3
     have hv223_4 := hcc223 4 _ rfl
     rw [add_field _ _ 4 (by omega)] at hv223_4
     replace hv223_4 := Option.some.inj (hv223_4.symm.trans hx223_4)
     injection hv223_4 with hva_ hvn_ hvc_
     rw [hva_] at ge223_4
     rw [hvc_] at ul223_4
     have HL223_4 := am_ (show Kd.V Kd.string 9 _ w.heap.size _ _ ((rd_T37 l0_2 x6_1).f1.f3) from Kd.V_mk ul223_4 ge223_4)
     clear hva_ hvn_ hvc_ ge223_4 ul223_4 hcc223 hce223
     have HR223_3 := am_ hi223_3
     have HC223_3 := am_ hl223_3
     clear hi223_3 hl223_3
     have HR223_4 := am_ hi223_4
     have HC223_4 := am_ hl223_4
     clear hi223_4 hl223_4
     replace p223 := eq_true p223
     replace q223 := eq_true q223
     have ea_ := Option.some.inj (hx222_3.symm.trans hx223_3)
     injection ea_ with ea_ en_ ec_
     subst ea_
     subst ec_
     clear en_
     have ea_ := Option.some.inj (hx222_4.symm.trans hx223_4)
     injection ea_ with ea_ en_ ec_
     subst ea_
     subst ec_
     clear en_
     obtain ⟨hcz10_0, hcz10_1, hcz10_2, hcz10_3, hcz10_4, hcz10_5, hcz10_6, hfz10_0, hfz10_1, hfz10_2, hfz10_3, hfz10_4, hfz10_5, hfz10_6⟩ := bx7 BK221
     go_wp2
     refine bodyPost_ret (results_ct rfl _ _ gb221 37 #[.string ((rd_T37 l0_2 x6_1).f0), .int .i64 ((rd_T37 l0_2 x6_1).f1.f0), .int .i64 ((rd_T37 l0_2 x6_1).f1.f1), .slice A222_3 ((rd_T37 l0_2 x6_1).f1.f2).length c222_3, .slice A222_4 ((rd_T37 l0_2 x6_1).f1.f3).length c222_4, .int .i64 ((rd_T37 l0_2 x6_1).f1.f4.f0), .int .i64 ((rd_T37 l0_2 x6_1).f1.f4.f1)] (0, 0) _ rfl (gP BK221 rfl) Try.underlying37 rfl (by kernel_rfl)) rfl ?_
     exact ⟨_, _, by first | rfl | (simp [errW_none, errW_some] <;> rfl) | (simp [*, errW_none, errW_some] <;> rfl), gV HL223_3, gV HL223_4, bh HB⟩
    rw [if_neg c7] at H
    have c7b0 : (((rd_T37 l0_2 x6_1).f0).toList == a1.toList) = false := beq_eq_false_iff_ne.mpr c7
    have c7b1 : (((rd_T37 l0_2 x6_1).f0).toList != a1.toList) = true := bne_iff_ne.mpr c7
    have H' := am_ H
    clear H
    have hnb11 := NB220_221.out
    have hnc11 := NB221_220.out
    obtain ⟨hcz12_0, hcz12_1, hcz12_2, hfz12_0, hfz12_1, hfz12_2⟩ := bx3 BK220
    have p222 : 0 ≤ (x6_1 : Int) := of_decide_eq_true ‹_›
    have q222 : x6_1 < (l0_2.length : Int) := of_decide_eq_true ‹_›
    obtain ⟨ad222, A222_3, c222_3, A222_4, c222_4, e222, hx222_0, hx222_1, hx222_2, hx222_3, hx222_4, hx222_5, hx222_6, hl222_3, hi222_3, hl222_4, hi222_4⟩ := at_T37 (Kd.V_reads' HO_221002.out).2.2 x6_1 p222 q222
    cases e222
    obtain ⟨ce222, hce222, hMe222, hcc222⟩ := Kd.V_get HO_221002.out z37 x6_1 p222 (by first | exact q222 | exact of_decide_eq_true ‹_› | (have e_ := (Kd.V_reads' HO_221002.out).1; omega))
    obtain ⟨ua222_3, uc222_3, ua222_4, uc222_4, rfl, ul222_3, ge222_3, ul222_4, ge222_4⟩ := k37_openF hMe222
    have hv222_3 := hcc222 3 _ rfl
    rw [add_field _ _ 3 (by omega)] at hv222_3
    replace hv222_3 := Option.some.inj (hv222_3.symm.trans hx222_3)
    injection hv222_3 with hva_ hvn_ hvc_
    rw [hva_] at ge222_3
    rw [hvc_] at ul222_3
    have HL222_3 := am_ (show Kd.V k129 129 _ w.heap.size _ _ ((rd_T37 l0_2 x6_1).f1.f2) from Kd.V_mk ul222_3 ge222_3)
    clear hva_ hvn_ hvc_ ge222_3 ul222_3
    have hv222_4 := hcc222 4 _ rfl
    rw [add_field _ _ 4 (by omega)] at hv222_4
    replace hv222_4 := Option.some.inj (hv222_4.symm.trans hx222_4)
    injection hv222_4 with hva_ hvn_ hvc_
    rw [hva_] at ge222_4
    rw [hvc_] at ul222_4
    have HL222_4 := am_ (show Kd.V Kd.string 9 _ w.heap.size _ _ ((rd_T37 l0_2 x6_1).f1.f3) from Kd.V_mk ul222_4 ge222_4)
    clear hva_ hvn_ hvc_ ge222_4 ul222_4 hcc222 hce222
    have HR222_3 := am_ hi222_3
    have HC222_3 := am_ hl222_3
    clear hi222_3 hl222_3
    have HR222_4 := am_ hi222_4
    have HC222_4 := am_ hl222_4
    clear hi222_4 hl222_4
    replace p222 := eq_true p222
    replace q222 := eq_true q222
    go_wp2
    go_roundg k1
    case measure => have := HK1.out; omega
    case rel => exact ⟨(wrap64 (x6_1 + 1)), (x222000_1), (x222001_1), (x222002_1), (x222005_1), (x222006_1), (by first | rfl | (simp; done) | (simp [*]; done)), H', kS HK1, ⟨hV HO_221002⟩, ⟨gB BK220⟩, ⟨gB BK221⟩, ⟨bh HB⟩⟩
   rw [if_neg c5] at H
   have c5b0 : decide (x6_1 < (l0_2.length : Int)) = false := decide_eq_false c5
   clear c5
   simp only [Option.some.injEq, Prod.mk.injEq] at H
   obtain ⟨rfl, rfl, rfl, rfl, rfl, rfl, rfl, rfl⟩ := H
   have hnb13 := NB220_221.out
   have hnc13 := NB221_220.out
   obtain ⟨hcz14_0, hcz14_1, hcz14_2, hfz14_0, hfz14_1, hfz14_2⟩ := bx3 BK220
   obtain ⟨hcz15_0, hcz15_1, hcz15_2, hcz15_3, hcz15_4, hcz15_5, hcz15_6, hfz15_0, hfz15_1, hfz15_2, hfz15_3, hfz15_4, hfz15_5, hfz15_6⟩ := bx7 BK221
   go_wp2
   refine bodyPost_ret (results_ct rfl _ _ gb221 37 #[.string (⟨#[]⟩ : ByteArray), .int .i64 0, .int .i64 0, .slice none 0 0, .slice none 0 0, .int .i64 0, .int .i64 0] (0, 0) _ rfl (gP BK221 rfl) Try.underlying37 rfl (by kernel_rfl)) rfl ?_
   exact ⟨_, _, by first | rfl | (simp [errW_none, errW_some] <;> rfl) | (simp [*, errW_none, errW_some] <;> rfl), Kd.V_nil _ _ _ _ _, Kd.V_nil _ _ _ _ _, bh HB⟩

def selvedgeref14_Has.l0 : Nat → List ByteArray → ByteArray → Int → Option (Bool)
 | 0, _, _, _ => none
 | k + 1, x0, x1, x5 => if x5 < (x0.length : Int) then (if 0 ≤ x5 then (if (rdOf ByteArray.empty x0 x5).toList = x1.toList then (some true) else (selvedgeref14_Has.l0 k x0 x1 (wrap64 (x5 + 1)))) else (none)) else (some false)
def selvedgeref14_Has.f (k : Nat) (l0 : List ByteArray) (a1 : ByteArray) : Option (Bool) := selvedgeref14_Has.l0 k l0 a1 0
set_option maxHeartbeats 8000000 in
set_option maxRecDepth 100000 in
theorem selvedgeref14_Has.calls (k : Nat) (A0 : Option Addr) (c0 : Nat) (l0 : List ByteArray) (a1 : ByteArray) (r : Bool) (w : World) (hr0 : Kd.C Kd.string w A0 l0.length l0) (hc0 : l0.length ≤ c0) (h : selvedgeref14_Has.f k l0 a1 = some r) :
  Calls Try.prog 32 #[.slice A0 l0.length c0, .string a1] w fun e w' => e = .returned (.bool r) ∧ Drawn0 w w' := by
 have HR0 := am_ hr0
 have HC0 := am_ hc0
 clear hr0 hc0
 have H : (selvedgeref14_Has.l0 k l0 a1 0) = some r := h
 clear h
 have H' := am_ H
 clear H
 go_enter Try.func32, Try.ntmps32
 go_wp2
 go_loopg [5] k (fun kq v5 w' => ∃ (x5_1 : Int), v5 = .int .i64 x5_1 ∧ Asc (selvedgeref14_Has.l0 kq l0 a1 x5_1 = some r) ∧ Asc (kq ≤ k) ∧ Drawn0 w w')
 case atStart => exact ⟨(0), (by first | rfl | (simp; done) | (simp [*]; done)), H', ⟨Nat.le_refl _⟩, by repeat (first | exact Drawn0.refl _ | apply Drawn0.step)⟩
 case round =>
  clear H'
  obtain ⟨x5_1, rfl, HA, HK1, ⟨m1, rfl⟩⟩ := hrel
  cases gk with
  | zero => exact absurd HA.out (by simp [selvedgeref14_Has.l0])
  | succ k1 =>
   have H := HA.out
   clear HA
   simp only [selvedgeref14_Has.l0] at H
   by_cases c3 : x5_1 < (l0.length : Int)
   ·
    rw [if_pos c3] at H
    have c3b0 : decide (x5_1 < (l0.length : Int)) = true := decide_eq_true c3
    clear c3
    revert H
    refine gi (fun c4b0 H => ?_)
    by_cases c5 : (rdOf ByteArray.empty l0 x5_1).toList = a1.toList
    ·
     rw [if_pos c5] at H
     have c5b0 : ((rdOf ByteArray.empty l0 x5_1).toList == a1.toList) = true := beq_iff_eq.mpr c5
     have c5b1 : ((rdOf ByteArray.empty l0 x5_1).toList != a1.toList) = false := bne_eq_false_iff_eq.mpr c5
     clear c5
     obtain rfl := Option.some.inj H
     have p224 : 0 ≤ (x5_1 : Int) := of_decide_eq_true ‹_›
     have q224 : x5_1 < (l0.length : Int) := of_decide_eq_true ‹_›
     obtain ⟨ad224, e224, hx224_0⟩ := Kd.at_string HR0.out x5_1 p224 q224
     cases e224
     replace p224 := eq_true p224
     replace q224 := eq_true q224
     go_wp2
     go_ret
     exact ⟨by first | rfl | (simp; done) | (simp [*]; done), by repeat (first | exact Drawn0.refl _ | apply Drawn0.step)⟩
    rw [if_neg c5] at H
    have c5b0 : ((rdOf ByteArray.empty l0 x5_1).toList == a1.toList) = false := beq_eq_false_iff_ne.mpr c5
    have c5b1 : ((rdOf ByteArray.empty l0 x5_1).toList != a1.toList) = true := bne_iff_ne.mpr c5
    have H' := am_ H
    clear H
    have p224 : 0 ≤ (x5_1 : Int) := of_decide_eq_true ‹_›
    have q224 : x5_1 < (l0.length : Int) := of_decide_eq_true ‹_›
    obtain ⟨ad224, e224, hx224_0⟩ := Kd.at_string HR0.out x5_1 p224 q224
    cases e224
    replace p224 := eq_true p224
    replace q224 := eq_true q224
    go_wp2
    go_roundg k1
    case measure => have := HK1.out; omega
    case rel => exact ⟨(wrap64 (x5_1 + 1)), (by first | rfl | (simp; done) | (simp [*]; done)), H', kS HK1, by repeat (first | exact Drawn0.refl _ | apply Drawn0.step)⟩
   rw [if_neg c3] at H
   have c3b0 : decide (x5_1 < (l0.length : Int)) = false := decide_eq_false c3
   clear c3
   obtain rfl := Option.some.inj H
   go_wp2
   go_ret
   exact ⟨by first | rfl | (simp; done) | (simp [*]; done), by repeat (first | exact Drawn0.refl _ | apply Drawn0.step)⟩

end Go.Proofs.Ytcbfnmabckjijaa.POrderTurns
