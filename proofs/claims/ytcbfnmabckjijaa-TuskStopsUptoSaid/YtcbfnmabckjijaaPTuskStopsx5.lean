-- written by a program of this session (pp.py), out of the kit's print and this session's contracts
import Derived.Test.YtcbfnmabckjijaaPTuskStopsx0
import Derived.Test.YtcbfnmabckjijaaPTuskStopsx2
import Derived.Test.YtcbfnmabckjijaaPTuskStopsx3
import Derived.Test.YtcbfnmabckjijaaPTuskStopsx4
import Derived.Test.YtcbfnmabckjijaaVTuskStopsPh
namespace Go.Proofs.Ytcbfnmabckjijaa.PTuskStops
open Go.RowKit Go.Proofs.YtcbfnmabckjijaaW.PrintWords Go.Proofs.YtcbfnmabckjijaaW.PrintLast Go.Proofs.YtcbfnmabckjijaaW.PrintMore
set_option linter.unusedVariables false
set_option linter.unusedSimpArgs false

def Fn.f (k : Nat) (a0_0 : Int) (a0_1 : Int) (l0_2 : List (S37)) (a1 : Int) : Option (ByteArray × Int × Int × (List (S129)) × List ByteArray × Int × Int × Int) := (G3.f k a0_0 a0_1 l0_2 a1).bind fun bt190 => (if bt190.2.2.2.2.2.2.2 = 0 then ((Fq.f k a0_0 a0_1 l0_2 bt190.1 bt190.2.1 bt190.2.2.1 bt190.2.2.2.1 bt190.2.2.2.2.1 bt190.2.2.2.2.2.1 bt190.2.2.2.2.2.2.1).bind fun t203 => ((Fs.f a0_0).bind fun t204 => (if t203 < t204 then (some ((⟨#[]⟩ : ByteArray), 0, 0, ([] : List (S129)), ([] : List ByteArray), 0, 0, 12)) else (some (bt190.1, bt190.2.1, bt190.2.2.1, bt190.2.2.2.1, bt190.2.2.2.2.1, bt190.2.2.2.2.2.1, bt190.2.2.2.2.2.2.1, 0))))) else (some ((⟨#[]⟩ : ByteArray), 0, 0, ([] : List (S129)), ([] : List ByteArray), 0, 0, bt190.2.2.2.2.2.2.2)))
def Fn.T4 : Bool × List (List Nat × List Nat) := (true, [([], []), ([], []), ([0, 1], [0, 1]), ([], []), ([3], [3]), ([4, 2], [4]), ([2, 5], [2, 5]), ([6, 5], [6])])
def Fn.B4 : List Nat := [0, 0, 3, 0, 8, 31, 63, 127]
theorem Fn.tab4 : rtab .any (opsOf Try.f15 4) = Fn.T4 := by kernel_rfl
theorem Fn.bits4 : waitsOk Fn.T4.2 Fn.B4 = true := by kernel_rfl
set_option maxHeartbeats 8000000 in
set_option maxRecDepth 100000 in
theorem Fn.calls (k : Nat) (a0_0 : Int) (a0_1 : Int) (P0_2_ : Nat → Prop) (A0_2 : Option Addr) (c0_2 : Nat) (l0_2 : List (S37)) (a1 : Int) (r1 : ByteArray) (r2 : Int) (r3 : Int) (r4 : List (S129)) (r5 : List ByteArray) (r6 : Int) (r7 : Int) (r8 : Int) (w : World) (hs0_2 : Kd.V k37 37 w w.heap.size (fun k_ => P0_2_ k_) (.slice A0_2 l0_2.length c0_2) l0_2) (h : Fn.f k a0_0 a0_1 l0_2 a1 = some (r1, r2, r3, r4, r5, r6, r7, r8)) :
  Calls Try.prog 15 #[.agg #[.int .i64 a0_0, .int .i64 a0_1, .slice A0_2 l0_2.length c0_2], .int .i64 a1] w fun e w' => ∃ v3_ v4_ : Value, e = .returned (.tuple #[.agg #[.string r1, .int .i64 r2, .int .i64 r3, v3_, v4_, .int .i64 r6, .int .i64 r7], .int .i64 r8]) ∧ Kd.V k129 129 w' w.heap.size (fun k_ => (P0_2_ k_ ∨ w.heap.size ≤ k_)) v3_ r4 ∧ Kd.V Kd.string 9 w' w.heap.size (fun k_ => (P0_2_ k_ ∨ w.heap.size ≤ k_)) v4_ r5 ∧ Below w.heap.size w w' := by
 have hu24 := Try.underlying24
 have hu37 := Try.underlying37
 have HO0_2 := am_ (show Kd.V k37 37 w w.heap.size (fun k_ => (P0_2_ k_ ∨ w.heap.size ≤ k_)) (.slice A0_2 l0_2.length c0_2) l0_2 from Kd.V_mono hs0_2 (fun k_ hk => .inl hk))
 have HB := am_ (Below.refl w.heap.size w)
 have H : ((G3.f k a0_0 a0_1 l0_2 a1).bind fun bt190 => (if bt190.2.2.2.2.2.2.2 = 0 then ((Fq.f k a0_0 a0_1 l0_2 bt190.1 bt190.2.1 bt190.2.2.1 bt190.2.2.2.1 bt190.2.2.2.2.1 bt190.2.2.2.2.2.1 bt190.2.2.2.2.2.2.1).bind fun t203 => ((Fs.f a0_0).bind fun t204 => (if t203 < t204 then (some ((⟨#[]⟩ : ByteArray), 0, 0, ([] : List (S129)), ([] : List ByteArray), 0, 0, 12)) else (some (bt190.1, bt190.2.1, bt190.2.2.1, bt190.2.2.2.1, bt190.2.2.2.2.1, bt190.2.2.2.2.2.1, bt190.2.2.2.2.2.2.1, 0))))) else (some ((⟨#[]⟩ : ByteArray), 0, 0, ([] : List (S129)), ([] : List ByteArray), 0, 0, bt190.2.2.2.2.2.2.2)))) = some (r1, r2, r3, r4, r5, r6, r7, r8) := h
 clear h
 replace H := Option.bind_eq_some_iff.mp H
 obtain ⟨⟨t190, t191, t192, t193, t196, t199, t200, t201⟩, A30, H⟩ := H
 replace H : (if t201 = 0 then ((Fq.f k a0_0 a0_1 l0_2 t190 t191 t192 t193 t196 t199 t200).bind fun t203 => ((Fs.f a0_0).bind fun t204 => (if t203 < t204 then (some ((⟨#[]⟩ : ByteArray), 0, 0, ([] : List (S129)), ([] : List ByteArray), 0, 0, 12)) else (some (t190, t191, t192, t193, t196, t199, t200, 0))))) else (some ((⟨#[]⟩ : ByteArray), 0, 0, ([] : List (S129)), ([] : List ByteArray), 0, 0, t201))) = some (r1, r2, r3, r4, r5, r6, r7, r8) := H
 have A3 := am_ A30
 clear A30
 by_cases c4 : t201 = 0
 ·
  rw [if_pos c4] at H
  have c4b0 : (t201 == 0) = true := beq_iff_eq.mpr c4
  have c4b1 : (t201 != 0) = false := bne_eq_false_iff_eq.mpr c4
  clear c4
  replace H := Option.bind_eq_some_iff.mp H
  obtain ⟨t203, A50, H⟩ := H
  replace H : ((Fs.f a0_0).bind fun t204 => (if t203 < t204 then (some ((⟨#[]⟩ : ByteArray), 0, 0, ([] : List (S129)), ([] : List ByteArray), 0, 0, 12)) else (some (t190, t191, t192, t193, t196, t199, t200, 0)))) = some (r1, r2, r3, r4, r5, r6, r7, r8) := H
  have A5 := am_ A50
  clear A50
  replace H := Option.bind_eq_some_iff.mp H
  obtain ⟨t204, A60, H⟩ := H
  replace H : (if t203 < t204 then (some ((⟨#[]⟩ : ByteArray), 0, 0, ([] : List (S129)), ([] : List ByteArray), 0, 0, 12)) else (some (t190, t191, t192, t193, t196, t199, t200, 0))) = some (r1, r2, r3, r4, r5, r6, r7, r8) := H
  have A6 := am_ A60
  clear A60
  by_cases c7 : t203 < t204
  ·
   rw [if_pos c7] at H
   have c7b0 : decide (t203 < t204) = true := decide_eq_true c7
   clear c7
   simp only [Option.some.injEq, Prod.mk.injEq] at H
   obtain ⟨rfl, rfl, rfl, rfl, rfl, rfl, rfl, rfl⟩ := H
   go_enter Try.func15, Try.ntmps15
   try go_wp2_with (first | ((with_reducible refine gd_ 2 ?_); refine be_ 2 #[.int .i64 a0_0, .int .i64 a0_1, .slice A0_2 l0_2.length c0_2] 24 ?_; intro gb188 hg w8 hbox hb; replace HO0_2 := tVe HO0_2 hg hb; have BK188 := am_ hbox; have GW188 := tG HB hg; have GE188 := tG HB hg; replace HB := tHb HB hb; clear hb hbox hg) | ((with_reducible refine gd_ 4 ?_); refine be_ 4 #[.string (⟨#[]⟩ : ByteArray), .int .i64 0, .int .i64 0, .slice none 0 0, .slice none 0 0, .int .i64 0, .int .i64 0] 37 ?_; intro gb189 hg w9 hbox hb; replace HO0_2 := tVe HO0_2 hg hb; have BK189 := am_ hbox; have GW189 := tG HB hg; have GE189 := tG HB hg; replace HB := tHb HB hb; have NB188_189 := tL BK188 hg; have NB189_188 := tR BK188 hg; replace BK188 := tBb BK188 hb; clear hb hbox hg; have hnb10 := NB188_189.out; have hnc10 := NB189_188.out; obtain ⟨z11_0, z11_1, z11_2, y11_0, y11_1, y11_2⟩ := bx3 BK188) | ((with_reducible refine gate_callee (f := 34) rfl ?_); refine gl_ (some 11) Try.func34 #[.agg #[.int .i64 a0_0, .int .i64 a0_1, .slice A0_2 l0_2.length c0_2], .int .i64 a1] ?_; (with_reducible refine (G3.calls k a0_0 a0_1 (fun k_ => (((P0_2_ k_ ∨ w.heap.size ≤ k_) ∧ k_ ≠ gb188) ∧ k_ ≠ gb189)) _ _ l0_2 a1 t190 t191 t192 t193 t196 t199 t200 t201 _ ?side1 A3.out).mono ?_); (case side1 => exact HO0_2.out); rintro e w12 ⟨v194, v197, rfl, ho0, ho1, hb⟩; refine ⟨_, rfl, ?_⟩; replace HO0_2 := tVb HO0_2 hb; have HO195 := am_ (Kd.V_lower (Kd.V_mono (ok' := fun k_ => (P0_2_ k_ ∨ w.heap.size ≤ k_) ∧ k_ ≠ gb188 ∧ k_ ≠ gb189) ho0 (fun k_ hk_ => ⟨Or.elim hk_ (fun hs_ => hs_.1.1) (fun hn_ => (.inr (Nat.le_trans (below_size (bh HB)) hn_))), Or.elim hk_ (fun hs_ => hs_.1.2) (fun hn_ => (gFr BK188 k_ hn_)), Or.elim hk_ (fun hs_ => hs_.2) (fun hn_ => (gFr BK189 k_ hn_))⟩)) (below_size (bh HB))); have HO198 := am_ (Kd.V_lower (Kd.V_mono (ok' := fun k_ => (P0_2_ k_ ∨ w.heap.size ≤ k_) ∧ k_ ≠ gb188 ∧ k_ ≠ gb189) ho1 (fun k_ hk_ => ⟨Or.elim hk_ (fun hs_ => hs_.1.1) (fun hn_ => (.inr (Nat.le_trans (below_size (bh HB)) hn_))), Or.elim hk_ (fun hs_ => hs_.1.2) (fun hn_ => (gFr BK188 k_ hn_)), Or.elim hk_ (fun hs_ => hs_.2) (fun hn_ => (gFr BK189 k_ hn_))⟩)) (below_size (bh HB))); replace BK188 := tBb BK188 hb; replace BK189 := tBb BK189 hb; replace HB := tHb HB hb; (try clear hb); (try clear ho0); (try clear ho1)) | ((with_reducible refine gd_ 6 ?_); refine be_ 6 #[.string (⟨#[]⟩ : ByteArray), .int .i64 0, .int .i64 0, .slice none 0 0, .slice none 0 0, .int .i64 0, .int .i64 0] 37 ?_; intro gb202 hg w13 hbox hb; replace HO0_2 := tVe HO0_2 hg hb; replace HO195 := tVe HO195 hg hb; replace HO198 := tVe HO198 hg hb; have BK202 := am_ hbox; have GW202 := tG HB hg; have GE202 := tG HB hg; replace HB := tHb HB hb; have NB188_202 := tL BK188 hg; have NB202_188 := tR BK188 hg; replace BK188 := tBb BK188 hb; have NB189_202 := tL BK189 hg; have NB202_189 := tR BK189 hg; replace BK189 := tBb BK189 hb; clear hb hbox hg; have hnb14 := NB202_188.out; have hnc14 := NB188_202.out; have hnb15 := NB202_189.out; have hnc15 := NB189_202.out; obtain ⟨z16_0, z16_1, z16_2, z16_3, z16_4, z16_5, z16_6, y16_0, y16_1, y16_2, y16_3, y16_4, y16_5, y16_6⟩ := bx7 BK202; obtain ⟨Ao17, co17, eo17⟩ := Kd.V_slice HO195.out; subst eo17; obtain ⟨Ao18, co18, eo18⟩ := Kd.V_slice HO198.out; subst eo18) | ((with_reducible refine gate_store (t := 37) (p := 6) rfl ?_); refine se_ 37 6 (((((((w13.setCell ⟨gb202, 0, none⟩ (.string t190)).setCell ⟨gb202, 1, none⟩ (.int .i64 t191)).setCell ⟨gb202, 2, none⟩ (.int .i64 t192)).setCell ⟨gb202, 3, none⟩ (.slice Ao17 t193.length co17)).setCell ⟨gb202, 4, none⟩ (.slice Ao18 t196.length co18)).setCell ⟨gb202, 5, none⟩ (.int .i64 t199)).setCell ⟨gb202, 6, none⟩ (.int .i64 t200)) ?_; intro w19 hw; replace HO0_2 : Asc (Kd.V k37 37 w19 w.heap.size (fun k_ => (P0_2_ k_ ∨ w.heap.size ≤ k_) ∧ k_ ≠ gb188 ∧ k_ ≠ gb189 ∧ k_ ≠ gb202) (.slice A0_2 l0_2.length c0_2) l0_2) := ⟨(by rw [hw]; exact (gV HO0_2))⟩; replace HO195 : Asc (Kd.V k129 129 w19 w.heap.size (fun k_ => (P0_2_ k_ ∨ w.heap.size ≤ k_) ∧ k_ ≠ gb188 ∧ k_ ≠ gb189 ∧ k_ ≠ gb202) (.slice Ao17 t193.length co17) t193) := ⟨(by rw [hw]; exact (gV HO195))⟩; replace HO198 : Asc (Kd.V Kd.string 9 w19 w.heap.size (fun k_ => (P0_2_ k_ ∨ w.heap.size ≤ k_) ∧ k_ ≠ gb188 ∧ k_ ≠ gb189 ∧ k_ ≠ gb202) (.slice Ao18 t196.length co18) t196) := ⟨(by rw [hw]; exact (gV HO198))⟩; replace BK188 : Asc (w19.heap[gb188]? = some (.cells #[.int .i64 a0_0, .int .i64 a0_1, .slice A0_2 l0_2.length c0_2] 24 (0, 0))) := ⟨(by rw [hw]; exact (gB BK188))⟩; replace BK189 : Asc (w19.heap[gb189]? = some (.cells #[.string (⟨#[]⟩ : ByteArray), .int .i64 0, .int .i64 0, .slice none 0 0, .slice none 0 0, .int .i64 0, .int .i64 0] 37 (0, 0))) := ⟨(by rw [hw]; exact (gB BK189))⟩; replace BK202 : Asc (w19.heap[gb202]? = some (.cells #[.string t190, .int .i64 t191, .int .i64 t192, .slice Ao17 t193.length co17, .slice Ao18 t196.length co18, .int .i64 t199, .int .i64 t200] 37 (0, 0))) := ⟨(by rw [hw]; exact (gP BK202 rfl))⟩; replace HB : Asc (Below w.heap.size w w19) := ⟨(by rw [hw]; exact (bh HB))⟩; clear hw))
   replace HO0_2 := am_ (Kd.V_drew HO0_2.out)
   replace HO195 := am_ (Kd.V_drew HO195.out)
   replace HO198 := am_ (Kd.V_drew HO198.out)
   replace BK188 := am_ (blk_drew BK188.out)
   replace BK189 := am_ (blk_drew BK189.out)
   replace BK202 := am_ (blk_drew BK202.out)
   replace HB := am_ (below_drew1 HB.out)
   refine start_ (n := 8) (S := fun w' => w'.cell? ⟨gb188, 0, none⟩ = some (.int .i64 a0_0) ∧ w'.cell? ⟨gb188, 1, none⟩ = some (.int .i64 a0_1) ∧ w'.cell? ⟨gb188, 2, none⟩ = some (.slice A0_2 l0_2.length c0_2) ∧ w'.cell? ⟨gb202, 0, none⟩ = some (.string t190) ∧ w'.cell? ⟨gb202, 1, none⟩ = some (.int .i64 t191) ∧ w'.cell? ⟨gb202, 2, none⟩ = some (.int .i64 t192) ∧ w'.cell? ⟨gb202, 3, none⟩ = some (.slice Ao17 t193.length co17) ∧ w'.cell? ⟨gb202, 4, none⟩ = some (.slice Ao18 t196.length co18) ∧ w'.cell? ⟨gb202, 5, none⟩ = some (.int .i64 t199) ∧ w'.cell? ⟨gb202, 6, none⟩ = some (.int .i64 t200)) (ds := []) #[false, false, false, false, false, false, false, false] (by kernel_rfl) rfl rfl ⟨(blk_cell BK188.out 0).trans rfl, (blk_cell BK188.out 1).trans rfl, (blk_cell BK188.out 2).trans rfl, (blk_cell BK202.out 0).trans rfl, (blk_cell BK202.out 1).trans rfl, (blk_cell BK202.out 2).trans rfl, (blk_cell BK202.out 3).trans rfl, (blk_cell BK202.out 4).trans rfl, (blk_cell BK202.out 5).trans rfl, (blk_cell BK202.out 6).trans rfl⟩ (fun hHeld => ?_); refine with_tabW Fn.tab4 Fn.bits4 (fun HT_ HW_ => ?_)
   generalize w19.drew = w20 at HO0_2 HO195 HO198 BK188 BK189 BK202 HB hHeld ⊢
   refine pu_ 3 (some 23) 8 HT_ (h := ?_)
   refine tk_ 0 (some 20) 9 HT_ HW_ hHeld (h := ?_)
   refine tk_ 1 (some 21) 11 HT_ HW_ hHeld (h := ?_)
   refine tk_ 4 (some 24) 27 HT_ HW_ hHeld (h := ?_)
   refine one_ (i := 2) (N := some 22) #[true, true, true, true, true, false, false, false] rfl rfl (one_of HT_.out (by kernel_rfl)) (by decide) (fun K hK => ?_)
   refine goes_ Try.func37 (by kernel_rfl) rfl #[.agg #[.int .i64 a0_0, .int .i64 a0_1, .slice A0_2 l0_2.length c0_2], .agg #[.string t190, .int .i64 t191, .int .i64 t192, .slice Ao17 t193.length co17, .slice Ao18 t196.length co18, .int .i64 t199, .int .i64 t200]] (by rfl) rfl rfl (by (try simp only [List.map_toArray, List.map_cons, List.map_nil]); first | done | rfl | (simp only [List.length_drop, List.length_take]; rfl)) ?_
   with_reducible refine (Fq.calls k a0_0 a0_1 _ _ l0_2 t190 t191 t192 _ _ t193 _ _ t196 t199 t200 t203 _ ?side1 ?side2 ?side3 ?side4 ?side5 ?side6 A5.out).mono ?_
   (case side1 => repeat (first | exact (Kd.V_reads' HO0_2.out).2.2 | (with_reducible refine Kd.C_alloc ?_ _) | (with_reducible refine Kd.C_drewN ?_ _) | (with_reducible refine Kd.C_drew ?_)))
   (case side2 => exact (Kd.V_reads' HO0_2.out).2.1)
   (case side3 => repeat (first | exact (Kd.V_reads' HO195.out).2.2 | (with_reducible refine Kd.C_alloc ?_ _) | (with_reducible refine Kd.C_drewN ?_ _) | (with_reducible refine Kd.C_drew ?_)))
   (case side4 => exact (Kd.V_reads' HO195.out).2.1)
   (case side5 => repeat (first | exact (Kd.V_reads' HO198.out).2.2 | (with_reducible refine Kd.C_alloc ?_ _) | (with_reducible refine Kd.C_drewN ?_ _) | (with_reducible refine Kd.C_drew ?_)))
   (case side6 => exact (Kd.V_reads' HO198.out).2.1)
   rintro e w21 ⟨rfl, hb⟩
   refine ⟨_, rfl, ?_⟩
   replace HO0_2 := tVb HO0_2 hb
   replace HO195 := tVb HO195 hb
   replace HO198 := tVb HO198 hb
   replace BK188 := tBb BK188 hb
   replace BK189 := tBb BK189 hb
   replace BK202 := tBb BK202 hb
   replace HB := tHb HB hb
   (try clear hb)
   (try clear hb2)
   (try clear hk)
   (try clear hi)
   refine hK.out _ _ ⟨(blk_cell BK188.out 0).trans rfl, (blk_cell BK188.out 1).trans rfl, (blk_cell BK188.out 2).trans rfl, (blk_cell BK202.out 0).trans rfl, (blk_cell BK202.out 1).trans rfl, (blk_cell BK202.out 2).trans rfl, (blk_cell BK202.out 3).trans rfl, (blk_cell BK202.out 4).trans rfl, (blk_cell BK202.out 5).trans rfl, (blk_cell BK202.out 6).trans rfl⟩ (fun hHeld => ?_)
   clear hK K
   refine norm_ (a' := ?_) ?_ ?_
   rotate_left
   ·
    show Act.put _ (some 22) _ = _
    simp only [Act.put, List.setIfInBounds_toArray, List.set_cons_zero, List.set_cons_succ, i64_w, i32_w]
    rfl
   refine one_ (i := 5) (N := some 25) #[true, true, true, true, true, true, false, false] rfl rfl (one_of HT_.out (by kernel_rfl)) (by decide) (fun K hK => ?_)
   refine goes_ Try.func38 (by kernel_rfl) rfl #[.int .i64 a0_0] (by rfl) rfl rfl (by (try simp only [List.map_toArray, List.map_cons, List.map_nil]); first | done | rfl | (simp only [List.length_drop, List.length_take]; rfl)) ?_
   with_reducible refine (Fs.calls a0_0 t204 _ A6.out).mono ?_
   rintro e w' ⟨rfl, ⟨nd, rfl⟩⟩
   refine ⟨_, rfl, ?_⟩
   refine hK.out _ _ ⟨(blk_cell BK188.out 0).trans rfl, (blk_cell BK188.out 1).trans rfl, (blk_cell BK188.out 2).trans rfl, (blk_cell BK202.out 0).trans rfl, (blk_cell BK202.out 1).trans rfl, (blk_cell BK202.out 2).trans rfl, (blk_cell BK202.out 3).trans rfl, (blk_cell BK202.out 4).trans rfl, (blk_cell BK202.out 5).trans rfl, (blk_cell BK202.out 6).trans rfl⟩ (fun hHeld => ?_)
   clear hK K
   refine norm_ (a' := ?_) ?_ ?_
   rotate_left
   ·
    show Act.put _ (some 25) _ = _
    simp only [Act.put, List.setIfInBounds_toArray, List.set_cons_zero, List.set_cons_succ, i64_w, i32_w]
    rfl
   refine pu_ 6 (some 26) 127 HT_ (h := ?_)
   refine pu_ 7 (some 19) 255 HT_ (h := ?_)
   refine done_ (done_of HT_.out (by kernel_rfl)) ?_
   obtain ⟨z22_0, z22_1, z22_2, z22_3, z22_4, z22_5, z22_6, y22_0, y22_1, y22_2, y22_3, y22_4, y22_5, y22_6⟩ := bx7 BK189
   try go_wp2
   refine bodyPost_ret (results_ct rfl _ _ gb189 37 #[.string (⟨#[]⟩ : ByteArray), .int .i64 0, .int .i64 0, .slice none 0 0, .slice none 0 0, .int .i64 0, .int .i64 0] (0, 0) _ rfl (gP BK189 rfl) Try.underlying37 rfl (by kernel_rfl)) rfl ?_
   exact ⟨_, _, fe, Kd.V_nil _ _ _ _ _, Kd.V_nil _ _ _ _ _, bh HB⟩
  rw [if_neg c7] at H
  have c7b0 : decide (t203 < t204) = false := decide_eq_false c7
  clear c7
  simp only [Option.some.injEq, Prod.mk.injEq] at H
  obtain ⟨rfl, rfl, rfl, rfl, rfl, rfl, rfl, rfl⟩ := H
  go_enter Try.func15, Try.ntmps15
  try go_wp2_with (first | ((with_reducible refine gd_ 2 ?_); refine be_ 2 #[.int .i64 a0_0, .int .i64 a0_1, .slice A0_2 l0_2.length c0_2] 24 ?_; intro gb188 hg w23 hbox hb; replace HO0_2 := tVe HO0_2 hg hb; have BK188 := am_ hbox; have GW188 := tG HB hg; have GE188 := tG HB hg; replace HB := tHb HB hb; clear hb hbox hg) | ((with_reducible refine gd_ 4 ?_); refine be_ 4 #[.string (⟨#[]⟩ : ByteArray), .int .i64 0, .int .i64 0, .slice none 0 0, .slice none 0 0, .int .i64 0, .int .i64 0] 37 ?_; intro gb189 hg w24 hbox hb; replace HO0_2 := tVe HO0_2 hg hb; have BK189 := am_ hbox; have GW189 := tG HB hg; have GE189 := tG HB hg; replace HB := tHb HB hb; have NB188_189 := tL BK188 hg; have NB189_188 := tR BK188 hg; replace BK188 := tBb BK188 hb; clear hb hbox hg; have hnb25 := NB188_189.out; have hnc25 := NB189_188.out; obtain ⟨z26_0, z26_1, z26_2, y26_0, y26_1, y26_2⟩ := bx3 BK188) | ((with_reducible refine gate_callee (f := 34) rfl ?_); refine gl_ (some 11) Try.func34 #[.agg #[.int .i64 a0_0, .int .i64 a0_1, .slice A0_2 l0_2.length c0_2], .int .i64 a1] ?_; (with_reducible refine (G3.calls k a0_0 a0_1 (fun k_ => (((P0_2_ k_ ∨ w.heap.size ≤ k_) ∧ k_ ≠ gb188) ∧ k_ ≠ gb189)) _ _ l0_2 a1 t190 t191 t192 t193 t196 t199 t200 t201 _ ?side1 A3.out).mono ?_); (case side1 => exact HO0_2.out); rintro e w27 ⟨v194, v197, rfl, ho0, ho1, hb⟩; refine ⟨_, rfl, ?_⟩; replace HO0_2 := tVb HO0_2 hb; have HO195 := am_ (Kd.V_lower (Kd.V_mono (ok' := fun k_ => (P0_2_ k_ ∨ w.heap.size ≤ k_) ∧ k_ ≠ gb188 ∧ k_ ≠ gb189) ho0 (fun k_ hk_ => ⟨Or.elim hk_ (fun hs_ => hs_.1.1) (fun hn_ => (.inr (Nat.le_trans (below_size (bh HB)) hn_))), Or.elim hk_ (fun hs_ => hs_.1.2) (fun hn_ => (gFr BK188 k_ hn_)), Or.elim hk_ (fun hs_ => hs_.2) (fun hn_ => (gFr BK189 k_ hn_))⟩)) (below_size (bh HB))); have HO198 := am_ (Kd.V_lower (Kd.V_mono (ok' := fun k_ => (P0_2_ k_ ∨ w.heap.size ≤ k_) ∧ k_ ≠ gb188 ∧ k_ ≠ gb189) ho1 (fun k_ hk_ => ⟨Or.elim hk_ (fun hs_ => hs_.1.1) (fun hn_ => (.inr (Nat.le_trans (below_size (bh HB)) hn_))), Or.elim hk_ (fun hs_ => hs_.1.2) (fun hn_ => (gFr BK188 k_ hn_)), Or.elim hk_ (fun hs_ => hs_.2) (fun hn_ => (gFr BK189 k_ hn_))⟩)) (below_size (bh HB))); replace BK188 := tBb BK188 hb; replace BK189 := tBb BK189 hb; replace HB := tHb HB hb; (try clear hb); (try clear ho0); (try clear ho1)) | ((with_reducible refine gd_ 6 ?_); refine be_ 6 #[.string (⟨#[]⟩ : ByteArray), .int .i64 0, .int .i64 0, .slice none 0 0, .slice none 0 0, .int .i64 0, .int .i64 0] 37 ?_; intro gb202 hg w28 hbox hb; replace HO0_2 := tVe HO0_2 hg hb; replace HO195 := tVe HO195 hg hb; replace HO198 := tVe HO198 hg hb; have BK202 := am_ hbox; have GW202 := tG HB hg; have GE202 := tG HB hg; replace HB := tHb HB hb; have NB188_202 := tL BK188 hg; have NB202_188 := tR BK188 hg; replace BK188 := tBb BK188 hb; have NB189_202 := tL BK189 hg; have NB202_189 := tR BK189 hg; replace BK189 := tBb BK189 hb; clear hb hbox hg; have hnb29 := NB202_188.out; have hnc29 := NB188_202.out; have hnb30 := NB202_189.out; have hnc30 := NB189_202.out; obtain ⟨z31_0, z31_1, z31_2, z31_3, z31_4, z31_5, z31_6, y31_0, y31_1, y31_2, y31_3, y31_4, y31_5, y31_6⟩ := bx7 BK202; obtain ⟨Ao32, co32, eo32⟩ := Kd.V_slice HO195.out; subst eo32; obtain ⟨Ao33, co33, eo33⟩ := Kd.V_slice HO198.out; subst eo33) | ((with_reducible refine gate_store (t := 37) (p := 6) rfl ?_); refine se_ 37 6 (((((((w28.setCell ⟨gb202, 0, none⟩ (.string t190)).setCell ⟨gb202, 1, none⟩ (.int .i64 t191)).setCell ⟨gb202, 2, none⟩ (.int .i64 t192)).setCell ⟨gb202, 3, none⟩ (.slice Ao32 t193.length co32)).setCell ⟨gb202, 4, none⟩ (.slice Ao33 t196.length co33)).setCell ⟨gb202, 5, none⟩ (.int .i64 t199)).setCell ⟨gb202, 6, none⟩ (.int .i64 t200)) ?_; intro w34 hw; replace HO0_2 : Asc (Kd.V k37 37 w34 w.heap.size (fun k_ => (P0_2_ k_ ∨ w.heap.size ≤ k_) ∧ k_ ≠ gb188 ∧ k_ ≠ gb189 ∧ k_ ≠ gb202) (.slice A0_2 l0_2.length c0_2) l0_2) := ⟨(by rw [hw]; exact (gV HO0_2))⟩; replace HO195 : Asc (Kd.V k129 129 w34 w.heap.size (fun k_ => (P0_2_ k_ ∨ w.heap.size ≤ k_) ∧ k_ ≠ gb188 ∧ k_ ≠ gb189 ∧ k_ ≠ gb202) (.slice Ao32 t193.length co32) t193) := ⟨(by rw [hw]; exact (gV HO195))⟩; replace HO198 : Asc (Kd.V Kd.string 9 w34 w.heap.size (fun k_ => (P0_2_ k_ ∨ w.heap.size ≤ k_) ∧ k_ ≠ gb188 ∧ k_ ≠ gb189 ∧ k_ ≠ gb202) (.slice Ao33 t196.length co33) t196) := ⟨(by rw [hw]; exact (gV HO198))⟩; replace BK188 : Asc (w34.heap[gb188]? = some (.cells #[.int .i64 a0_0, .int .i64 a0_1, .slice A0_2 l0_2.length c0_2] 24 (0, 0))) := ⟨(by rw [hw]; exact (gB BK188))⟩; replace BK189 : Asc (w34.heap[gb189]? = some (.cells #[.string (⟨#[]⟩ : ByteArray), .int .i64 0, .int .i64 0, .slice none 0 0, .slice none 0 0, .int .i64 0, .int .i64 0] 37 (0, 0))) := ⟨(by rw [hw]; exact (gB BK189))⟩; replace BK202 : Asc (w34.heap[gb202]? = some (.cells #[.string t190, .int .i64 t191, .int .i64 t192, .slice Ao32 t193.length co32, .slice Ao33 t196.length co33, .int .i64 t199, .int .i64 t200] 37 (0, 0))) := ⟨(by rw [hw]; exact (gP BK202 rfl))⟩; replace HB : Asc (Below w.heap.size w w34) := ⟨(by rw [hw]; exact (bh HB))⟩; clear hw))
  replace HO0_2 := am_ (Kd.V_drew HO0_2.out)
  replace HO195 := am_ (Kd.V_drew HO195.out)
  replace HO198 := am_ (Kd.V_drew HO198.out)
  replace BK188 := am_ (blk_drew BK188.out)
  replace BK189 := am_ (blk_drew BK189.out)
  replace BK202 := am_ (blk_drew BK202.out)
  replace HB := am_ (below_drew1 HB.out)
  refine start_ (n := 8) (S := fun w' => w'.cell? ⟨gb188, 0, none⟩ = some (.int .i64 a0_0) ∧ w'.cell? ⟨gb188, 1, none⟩ = some (.int .i64 a0_1) ∧ w'.cell? ⟨gb188, 2, none⟩ = some (.slice A0_2 l0_2.length c0_2) ∧ w'.cell? ⟨gb202, 0, none⟩ = some (.string t190) ∧ w'.cell? ⟨gb202, 1, none⟩ = some (.int .i64 t191) ∧ w'.cell? ⟨gb202, 2, none⟩ = some (.int .i64 t192) ∧ w'.cell? ⟨gb202, 3, none⟩ = some (.slice Ao32 t193.length co32) ∧ w'.cell? ⟨gb202, 4, none⟩ = some (.slice Ao33 t196.length co33) ∧ w'.cell? ⟨gb202, 5, none⟩ = some (.int .i64 t199) ∧ w'.cell? ⟨gb202, 6, none⟩ = some (.int .i64 t200)) (ds := []) #[false, false, false, false, false, false, false, false] (by kernel_rfl) rfl rfl ⟨(blk_cell BK188.out 0).trans rfl, (blk_cell BK188.out 1).trans rfl, (blk_cell BK188.out 2).trans rfl, (blk_cell BK202.out 0).trans rfl, (blk_cell BK202.out 1).trans rfl, (blk_cell BK202.out 2).trans rfl, (blk_cell BK202.out 3).trans rfl, (blk_cell BK202.out 4).trans rfl, (blk_cell BK202.out 5).trans rfl, (blk_cell BK202.out 6).trans rfl⟩ (fun hHeld => ?_); refine with_tabW Fn.tab4 Fn.bits4 (fun HT_ HW_ => ?_)
  generalize w34.drew = w35 at HO0_2 HO195 HO198 BK188 BK189 BK202 HB hHeld ⊢
  refine pu_ 3 (some 23) 8 HT_ (h := ?_)
  refine tk_ 0 (some 20) 9 HT_ HW_ hHeld (h := ?_)
  refine tk_ 1 (some 21) 11 HT_ HW_ hHeld (h := ?_)
  refine tk_ 4 (some 24) 27 HT_ HW_ hHeld (h := ?_)
  refine one_ (i := 2) (N := some 22) #[true, true, true, true, true, false, false, false] rfl rfl (one_of HT_.out (by kernel_rfl)) (by decide) (fun K hK => ?_)
  refine goes_ Try.func37 (by kernel_rfl) rfl #[.agg #[.int .i64 a0_0, .int .i64 a0_1, .slice A0_2 l0_2.length c0_2], .agg #[.string t190, .int .i64 t191, .int .i64 t192, .slice Ao32 t193.length co32, .slice Ao33 t196.length co33, .int .i64 t199, .int .i64 t200]] (by rfl) rfl rfl (by (try simp only [List.map_toArray, List.map_cons, List.map_nil]); first | done | rfl | (simp only [List.length_drop, List.length_take]; rfl)) ?_
  with_reducible refine (Fq.calls k a0_0 a0_1 _ _ l0_2 t190 t191 t192 _ _ t193 _ _ t196 t199 t200 t203 _ ?side1 ?side2 ?side3 ?side4 ?side5 ?side6 A5.out).mono ?_
  (case side1 => repeat (first | exact (Kd.V_reads' HO0_2.out).2.2 | (with_reducible refine Kd.C_alloc ?_ _) | (with_reducible refine Kd.C_drewN ?_ _) | (with_reducible refine Kd.C_drew ?_)))
  (case side2 => exact (Kd.V_reads' HO0_2.out).2.1)
  (case side3 => repeat (first | exact (Kd.V_reads' HO195.out).2.2 | (with_reducible refine Kd.C_alloc ?_ _) | (with_reducible refine Kd.C_drewN ?_ _) | (with_reducible refine Kd.C_drew ?_)))
  (case side4 => exact (Kd.V_reads' HO195.out).2.1)
  (case side5 => repeat (first | exact (Kd.V_reads' HO198.out).2.2 | (with_reducible refine Kd.C_alloc ?_ _) | (with_reducible refine Kd.C_drewN ?_ _) | (with_reducible refine Kd.C_drew ?_)))
  (case side6 => exact (Kd.V_reads' HO198.out).2.1)
  rintro e w36 ⟨rfl, hb⟩
  refine ⟨_, rfl, ?_⟩
  replace HO0_2 := tVb HO0_2 hb
  replace HO195 := tVb HO195 hb
  replace HO198 := tVb HO198 hb
  replace BK188 := tBb BK188 hb
  replace BK189 := tBb BK189 hb
  replace BK202 := tBb BK202 hb
  replace HB := tHb HB hb
  (try clear hb)
  (try clear hb2)
  (try clear hk)
  (try clear hi)
  refine hK.out _ _ ⟨(blk_cell BK188.out 0).trans rfl, (blk_cell BK188.out 1).trans rfl, (blk_cell BK188.out 2).trans rfl, (blk_cell BK202.out 0).trans rfl, (blk_cell BK202.out 1).trans rfl, (blk_cell BK202.out 2).trans rfl, (blk_cell BK202.out 3).trans rfl, (blk_cell BK202.out 4).trans rfl, (blk_cell BK202.out 5).trans rfl, (blk_cell BK202.out 6).trans rfl⟩ (fun hHeld => ?_)
  clear hK K
  refine norm_ (a' := ?_) ?_ ?_
  rotate_left
  ·
   show Act.put _ (some 22) _ = _
   simp only [Act.put, List.setIfInBounds_toArray, List.set_cons_zero, List.set_cons_succ, i64_w, i32_w]
   rfl
  refine one_ (i := 5) (N := some 25) #[true, true, true, true, true, true, false, false] rfl rfl (one_of HT_.out (by kernel_rfl)) (by decide) (fun K hK => ?_)
  refine goes_ Try.func38 (by kernel_rfl) rfl #[.int .i64 a0_0] (by rfl) rfl rfl (by (try simp only [List.map_toArray, List.map_cons, List.map_nil]); first | done | rfl | (simp only [List.length_drop, List.length_take]; rfl)) ?_
  with_reducible refine (Fs.calls a0_0 t204 _ A6.out).mono ?_
  rintro e w' ⟨rfl, ⟨nd, rfl⟩⟩
  refine ⟨_, rfl, ?_⟩
  refine hK.out _ _ ⟨(blk_cell BK188.out 0).trans rfl, (blk_cell BK188.out 1).trans rfl, (blk_cell BK188.out 2).trans rfl, (blk_cell BK202.out 0).trans rfl, (blk_cell BK202.out 1).trans rfl, (blk_cell BK202.out 2).trans rfl, (blk_cell BK202.out 3).trans rfl, (blk_cell BK202.out 4).trans rfl, (blk_cell BK202.out 5).trans rfl, (blk_cell BK202.out 6).trans rfl⟩ (fun hHeld => ?_)
  clear hK K
  refine norm_ (a' := ?_) ?_ ?_
  rotate_left
  ·
   show Act.put _ (some 25) _ = _
   simp only [Act.put, List.setIfInBounds_toArray, List.set_cons_zero, List.set_cons_succ, i64_w, i32_w]
   rfl
  refine pu_ 6 (some 26) 127 HT_ (h := ?_)
  refine pu_ 7 (some 19) 255 HT_ (h := ?_)
  refine done_ (done_of HT_.out (by kernel_rfl)) ?_
  obtain ⟨z37_0, z37_1, z37_2, z37_3, z37_4, z37_5, z37_6, y37_0, y37_1, y37_2, y37_3, y37_4, y37_5, y37_6⟩ := bx7 BK202
  obtain ⟨z38_0, z38_1, z38_2, z38_3, z38_4, z38_5, z38_6, y38_0, y38_1, y38_2, y38_3, y38_4, y38_5, y38_6⟩ := bx7 BK189
  try go_wp2
  refine bodyPost_ret (results_ct rfl _ _ gb189 37 #[.string t190, .int .i64 t191, .int .i64 t192, .slice Ao32 t193.length co32, .slice Ao33 t196.length co33, .int .i64 t199, .int .i64 t200] (0, 0) _ rfl (gP BK189 rfl) Try.underlying37 rfl (by kernel_rfl)) rfl ?_
  exact ⟨_, _, fe, gV HO195, gV HO198, bh HB⟩
 rw [if_neg c4] at H
 have c4b0 : (t201 == 0) = false := beq_eq_false_iff_ne.mpr c4
 have c4b1 : (t201 != 0) = true := bne_iff_ne.mpr c4
 simp only [Option.some.injEq, Prod.mk.injEq] at H
 obtain ⟨rfl, rfl, rfl, rfl, rfl, rfl, rfl, rfl⟩ := H
 go_enter Try.func15, Try.ntmps15
 go_wp2_with (first | ((with_reducible refine gd_ 2 ?_); refine be_ 2 #[.int .i64 a0_0, .int .i64 a0_1, .slice A0_2 l0_2.length c0_2] 24 ?_; intro gb188 hg w39 hbox hb; replace HO0_2 := tVe HO0_2 hg hb; have BK188 := am_ hbox; have GW188 := tG HB hg; have GE188 := tG HB hg; replace HB := tHb HB hb; clear hb hbox hg) | ((with_reducible refine gd_ 4 ?_); refine be_ 4 #[.string (⟨#[]⟩ : ByteArray), .int .i64 0, .int .i64 0, .slice none 0 0, .slice none 0 0, .int .i64 0, .int .i64 0] 37 ?_; intro gb189 hg w40 hbox hb; replace HO0_2 := tVe HO0_2 hg hb; have BK189 := am_ hbox; have GW189 := tG HB hg; have GE189 := tG HB hg; replace HB := tHb HB hb; have NB188_189 := tL BK188 hg; have NB189_188 := tR BK188 hg; replace BK188 := tBb BK188 hb; clear hb hbox hg; have hnb41 := NB188_189.out; have hnc41 := NB189_188.out; obtain ⟨z42_0, z42_1, z42_2, y42_0, y42_1, y42_2⟩ := bx3 BK188) | ((with_reducible refine gate_callee (f := 34) rfl ?_); refine gl_ (some 11) Try.func34 #[.agg #[.int .i64 a0_0, .int .i64 a0_1, .slice A0_2 l0_2.length c0_2], .int .i64 a1] ?_; (with_reducible refine (G3.calls k a0_0 a0_1 (fun k_ => (((P0_2_ k_ ∨ w.heap.size ≤ k_) ∧ k_ ≠ gb188) ∧ k_ ≠ gb189)) _ _ l0_2 a1 t190 t191 t192 t193 t196 t199 t200 t201 _ ?side1 A3.out).mono ?_); (case side1 => exact HO0_2.out); rintro e w43 ⟨v194, v197, rfl, ho0, ho1, hb⟩; refine ⟨_, rfl, ?_⟩; replace HO0_2 := tVb HO0_2 hb; have HO195 := am_ (Kd.V_lower (Kd.V_mono (ok' := fun k_ => (P0_2_ k_ ∨ w.heap.size ≤ k_) ∧ k_ ≠ gb188 ∧ k_ ≠ gb189) ho0 (fun k_ hk_ => ⟨Or.elim hk_ (fun hs_ => hs_.1.1) (fun hn_ => (.inr (Nat.le_trans (below_size (bh HB)) hn_))), Or.elim hk_ (fun hs_ => hs_.1.2) (fun hn_ => (gFr BK188 k_ hn_)), Or.elim hk_ (fun hs_ => hs_.2) (fun hn_ => (gFr BK189 k_ hn_))⟩)) (below_size (bh HB))); have HO198 := am_ (Kd.V_lower (Kd.V_mono (ok' := fun k_ => (P0_2_ k_ ∨ w.heap.size ≤ k_) ∧ k_ ≠ gb188 ∧ k_ ≠ gb189) ho1 (fun k_ hk_ => ⟨Or.elim hk_ (fun hs_ => hs_.1.1) (fun hn_ => (.inr (Nat.le_trans (below_size (bh HB)) hn_))), Or.elim hk_ (fun hs_ => hs_.1.2) (fun hn_ => (gFr BK188 k_ hn_)), Or.elim hk_ (fun hs_ => hs_.2) (fun hn_ => (gFr BK189 k_ hn_))⟩)) (below_size (bh HB))); replace BK188 := tBb BK188 hb; replace BK189 := tBb BK189 hb; replace HB := tHb HB hb; (try clear hb); (try clear ho0); (try clear ho1)) | ((with_reducible refine gd_ 6 ?_); refine be_ 6 #[.string (⟨#[]⟩ : ByteArray), .int .i64 0, .int .i64 0, .slice none 0 0, .slice none 0 0, .int .i64 0, .int .i64 0] 37 ?_; intro gb202 hg w44 hbox hb; replace HO0_2 := tVe HO0_2 hg hb; replace HO195 := tVe HO195 hg hb; replace HO198 := tVe HO198 hg hb; have BK202 := am_ hbox; have GW202 := tG HB hg; have GE202 := tG HB hg; replace HB := tHb HB hb; have NB188_202 := tL BK188 hg; have NB202_188 := tR BK188 hg; replace BK188 := tBb BK188 hb; have NB189_202 := tL BK189 hg; have NB202_189 := tR BK189 hg; replace BK189 := tBb BK189 hb; clear hb hbox hg; have hnb45 := NB202_188.out; have hnc45 := NB188_202.out; have hnb46 := NB202_189.out; have hnc46 := NB189_202.out; obtain ⟨z47_0, z47_1, z47_2, z47_3, z47_4, z47_5, z47_6, y47_0, y47_1, y47_2, y47_3, y47_4, y47_5, y47_6⟩ := bx7 BK202; obtain ⟨Ao48, co48, eo48⟩ := Kd.V_slice HO195.out; subst eo48; obtain ⟨Ao49, co49, eo49⟩ := Kd.V_slice HO198.out; subst eo49; obtain ⟨z50_0, z50_1, z50_2, z50_3, z50_4, z50_5, z50_6, y50_0, y50_1, y50_2, y50_3, y50_4, y50_5, y50_6⟩ := bx7 BK189))
 refine bodyPost_ret (results_ct rfl _ _ gb189 37 #[.string (⟨#[]⟩ : ByteArray), .int .i64 0, .int .i64 0, .slice none 0 0, .slice none 0 0, .int .i64 0, .int .i64 0] (0, 0) _ rfl (gP BK189 rfl) Try.underlying37 rfl (by kernel_rfl)) rfl ?_
 exact ⟨_, _, fe, Kd.V_nil _ _ _ _ _, Kd.V_nil _ _ _ _ _, bh HB⟩

def G8.f (a0_0 : Int) (a0_1 : Int) (l0_2 : List SE) (a1 : ByteArray) (a2 : ByteArray) : Option Bool := if Si.okX (l0_2.map toDX) = true ∧ a2.size ≤ 140737488351232 then (Si.innX (l0_2.map toDX) a1).map (fun o => match o with
 | none => false
 | some inn => (Si.look inn a2).isSome) else none
theorem G8.calls (a0_0 : Int) (a0_1 : Int) (P0_2_ : Nat → Prop) (A0_2 : Option Addr) (c0_2 : Nat) (l0_2 : List (S37)) (a1 : ByteArray) (a2 : ByteArray) (r : Bool) (w : World) (hs0_2 : Kd.V k37 37 w w.heap.size (fun k_ => P0_2_ k_) (.slice A0_2 l0_2.length c0_2) l0_2) (h : G8.f a0_0 a0_1 l0_2 a1 a2 = some r) :
  Calls Try.prog 35 #[.agg #[.int .i64 a0_0, .int .i64 a0_1, .slice A0_2 l0_2.length c0_2], .string a1, .string a2] w fun e w' => e = .returned (.bool r) ∧ Below w.heap.size w w' := by
 obtain ⟨_, hcl, hF⟩ := Kd.V_at hs0_2
 obtain ⟨rs, hrs, hrow⟩ := F_relsE hF
 unfold G8.f at h
 split at h
 ·
  rename_i hok2
  obtain ⟨hok, hto⟩ := hok2
  obtain ⟨o, ho, hr⟩ := Option.map_eq_some_iff.1 h
  obtain ⟨k1, k2, k3⟩ := (Si.okX_iff _).1 hok
  rw [List.length_map] at k1
  have hmem : ∀ x ∈ l0_2, x.f0.size ≤ 140737488351232 := fun x hx => (k2 _ (List.mem_map.2 ⟨x, hx, rfl⟩)).1
  have hf := first_rel (fun r : Si.ER => r.d.toList == a1.toList) (fun x : SE => x.f0.toList == a1.toList) (fun r x hr => by rw [hr.1]) rs l0_2 hrs
  have hrd : ∀ (q : Int) (w1 : World), Below w.heap.size w w1 → Calls Try.prog 70 #[.agg #[.int .i64 a0_0, .int .i64 a0_1, .slice A0_2 l0_2.length c0_2], .int .i64 q] w1 fun e w' => ∃ A' c' rs', e = .returned (.slice A' (rs' : List Si.ER).length c') ∧ Si.Rowentry w' A' rs' ∧ Si.PEs w' rs' (Si.roundX (l0_2.map toDX) q) ∧ Below w1.heap.size w1 w' := by
   intro q w1 hb
   refine (Fm.calls (l0_2.length + 1) a0_0 a0_1 P0_2_ A0_2 c0_2 l0_2 q _ w1 (Kd.V_mk hcl (Kd.F_below hF hb)) (dagRound_f l0_2 k1 a0_0 a0_1 q)).mono ?_
   rintro e w' ⟨v, rfl, hN, hb2⟩
   obtain ⟨A', c', rfl, hl', _⟩ := Kd.N_reads hN
   obtain ⟨rs', hrs', hrow'⟩ := F_relsE (Kd.N_F hN)
   refine ⟨A', c', rs', by rw [hrs'.len], hrow', ?_, hb2⟩
   rw [filter_map_dx]
   exact pes_of hrs'
  have hsz : ∀ x ∈ rs, x.d.size ≤ maxLen := fun x hx => by
   obtain ⟨j, hj⟩ := List.mem_iff_getElem?.1 hx
   have hjl : j < l0_2.length := by rw [← hrs.len]; exact (List.getElem?_eq_some_iff.1 hj).1
   have hx2 := hrs.get j x _ hj (List.getElem?_eq_getElem hjl)
   have := hmem _ (List.getElem_mem hjl)
   rw [hx2.1]
   unfold maxLen; omega
  unfold Si.innX at ho
  rw [find_map_dx] at ho
  cases hq : l0_2.find? (fun x => x.f0.toList == a1.toList) with
  | none =>
   rw [hq] at ho hf
   dsimp only [Option.map] at ho hf
   obtain rfl := Option.some.inj ho
   have hc := Si.Path_c A0_2 c0_2 rs a0_0 a0_1 a1 a2 [] w hrow (by rw [hrs.len]; omega) (by unfold maxLen; omega) (fun w1 hb h2 => by rw [hf] at h2; cases h2)
   rw [hrs.len] at hc
   refine hc.mono ?_
   rintro e w' ⟨rfl, hb⟩
   have e0 : Si.pathR a1 [] a2 rs = false := by unfold Si.pathR; rw [hf]; rfl
   rw [e0]
   subst hr
   exact ⟨rfl, hb⟩
  | some x =>
   rw [hq] at ho hf
   dsimp only [Option.map] at ho hf
   obtain ⟨hf1, hf2⟩ := hf
   cases hd : Si.downO (Si.roundX (l0_2.map toDX)) 70 x.f1.f1 with
   | none => rw [show (toDX x).ro = x.f1.f1 from rfl, hd] at ho; cases ho
   | some rl =>
    rw [show (toDX x).ro = x.f1.f1 from rfl, hd] at ho
    obtain rfl := Option.some.inj ho
    have hxm := List.mem_of_find?_eq_some hq
    have hc := Si.Path_c A0_2 c0_2 rs a0_0 a0_1 a1 a2 (Si.pastS x.f0 x.f1.f1 (Si.roundX (l0_2.map toDX)) rl).1 w hrow (by rw [hrs.len]; omega) (by unfold maxLen; omega) (fun w1 hb _ => by
     have hp := Si.past_c A0_2 c0_2 rs.length a0_0 a0_1 (Si.firstE (fun x => x.d.toList == a1.toList) rs).1 (l0_2.map toDX) w1 hok (by rw [hf2.1]; exact hmem x hxm) (fun q w2 hb2 => by rw [hrs.len]; exact hrd q w2 (hb.trans (hb2.mono hb.size))) rl (by rw [hf2.2.2.1]; exact hd)
     rw [hf2.1, hf2.2.2.1] at hp
     exact hp)
    rw [hrs.len] at hc
    refine hc.mono ?_
    rintro e w' ⟨rfl, hb⟩
    have e0 : Si.pathR a1 (Si.pastS x.f0 x.f1.f1 (Si.roundX (l0_2.map toDX)) rl).1 a2 rs = (Si.look (Si.pastS x.f0 x.f1.f1 (Si.roundX (l0_2.map toDX)) rl).1 a2).isSome := by unfold Si.pathR; rw [hf1, if_pos rfl]
    rw [e0]
    dsimp only at hr
    subst hr
    exact ⟨rfl, hb⟩
 cases h

end Go.Proofs.Ytcbfnmabckjijaa.PTuskStops
