-- written by a program of this session (pp.py), out of the kit's print and this session's contracts
import Derived.Test.YtefdokolbdnjnaaPCutFeedsx0
import Derived.Test.YtefdokolbdnjnaaPCutFeedsx1
import Derived.Test.YtefdokolbdnjnaaPCutFeedsx2
import Derived.Test.YtefdokolbdnjnaaPCutFeedsx3
import Derived.Test.YtefdokolbdnjnaaPCutFeedsx4
import Derived.Test.YtefdokolbdnjnaaPCutFeedsx5
import Derived.Test.YtefdokolbdnjnaaVCutFeedsPe
namespace Go.Proofs.Ytefdokolbdnjnaa.PCutFeeds
open Go.RowKit Go.Proofs.YtefdokolbdnjnaaW.PrintWords Go.Proofs.YtefdokolbdnjnaaW.PrintLast Go.Proofs.YtefdokolbdnjnaaW.PrintMore
attribute [local go_sem] max2_int min2_int max_two min_two max_three min_three max_four min_four   -- for this text's walks alone
set_option linter.unusedVariables false
set_option linter.unusedSimpArgs false

/-! ### selvedgelaw15_CutFeeds: function 11 -/
mutual
def selvedgelaw15_CutFeeds.j0 : Nat → List ByteArray → ByteArray → Bool → Bool → Int → ByteArray → List ByteArray → Int → ByteArray → List ByteArray → Option (Bool)
 | 0, _, _, _, _, _, _, _, _, _, _ => none
 | k + 1, x4, x6, x7, x35, x225000, x225001, x225002, x226000, x226001, x226002 => if x35 = true then (some x7) else ((cut_Feed.f k x225000 x225001 x225002 x4).bind fun bt227 => ((selvedgeref15_Feed.f k x225000 x225001 x225002 x4).bind fun bt236 => ((cut_Flush.f x225000 x225001 x225002).bind fun bt245 => ((selvedgeref15_Flush.f x225000 x225001 x225002).bind fun bt254 => ((selvedgeref15_Same.f k bt227.1 bt227.2.1 bt227.2.2.1 bt236.1 bt236.2.1 bt236.2.2.1).bind fun t263 => (if t263 = true then ((selvedgeref15_Same.f k bt245.1 bt245.2.1 bt245.2.2.1 bt254.1 bt254.2.1 bt254.2.2.1).bind fun t264 => (selvedgelaw15_CutFeeds.j1 k x6 x7 bt227.2.2.2 bt236.2.2.2 bt245.2.2.2 bt254.2.2.2 t264 x225000 x225001 x225002 x226000 x226001 x226002)) else (selvedgelaw15_CutFeeds.j1 k x6 x7 bt227.2.2.2 bt236.2.2.2 bt245.2.2.2 bt254.2.2.2 false x225000 x225001 x225002 x226000 x226001 x226002)))))))
def selvedgelaw15_CutFeeds.j1 : Nat → ByteArray → Bool → List (S40) → List (S40) → List (S40) → List (S40) → Bool → Int → ByteArray → List ByteArray → Int → ByteArray → List ByteArray → Option (Bool)
 | 0, _, _, _, _, _, _, _, _, _, _, _, _, _ => none
 | k + 1, x6, x7, x9, x11, x13, x15, x16, x225000, x225001, x225002, x226000, x226001, x226002 => (selvedgeref15_Blocks.f k x9 x11).bind fun t265 => (if t265 = true then ((selvedgeref15_Blocks.f k x13 x15).bind fun t266 => (selvedgelaw15_CutFeeds.j2 k x6 x7 x16 t266 x225000 x225001 x225002 x226000 x226001 x226002)) else (selvedgelaw15_CutFeeds.j2 k x6 x7 x16 false x225000 x225001 x225002 x226000 x226001 x226002))
def selvedgelaw15_CutFeeds.j2 : Nat → ByteArray → Bool → Bool → Bool → Int → ByteArray → List ByteArray → Int → ByteArray → List ByteArray → Option (Bool)
 | 0, _, _, _, _, _, _, _, _, _, _ => none
 | k + 1, x6, x7, x16, x17, x225000, x225001, x225002, x226000, x226001, x226002 => if x7 = true then (if x16 = true then (if x17 = true then ((cut_Digest.f x226000 x226001 x226002).bind fun t267 => ((selvedgeref15_Digest.f k x226000 x226001 x226002).bind fun t268 => (if t267.toList = t268.toList then ((cut_Fits.f k x225002 x6).bind fun t269 => ((selvedgeref15_Fits.f k x225002 x6).bind fun t270 => (some (t269 == t270)))) else (some false)))) else (some false)) else (some false)) else (some false)
end
def selvedgelaw15_CutFeeds.f (k : Nat) (a0_0 : Int) (a0_1 : ByteArray) (l0_2 : List ByteArray) (l0_3 : List ByteArray) (a0_4 : Int) (a0_5 : ByteArray) (l0_6 : List ByteArray) (a0_7 : ByteArray) : Option (Bool) := (selvedgelaw15_shown.f k).bind fun t226 => (if (l0_3.length : Int) > 300 then (selvedgelaw15_CutFeeds.j0 k l0_3 a0_7 t226 true a0_0 a0_1 l0_2 a0_4 a0_5 l0_6) else (selvedgelaw15_CutFeeds.j0 k l0_3 a0_7 t226 (decide ((l0_2.length : Int) > 300)) a0_0 a0_1 l0_2 a0_4 a0_5 l0_6))
theorem selvedgelaw15_CutFeeds.mono_l : ∀ k, (∀ y0 y1 y2 y3 y4 y5 y6 y7 y8 y9, LeO (selvedgelaw15_CutFeeds.j0 k y0 y1 y2 y3 y4 y5 y6 y7 y8 y9) (selvedgelaw15_CutFeeds.j0 (k + 1) y0 y1 y2 y3 y4 y5 y6 y7 y8 y9)) ∧ (∀ y0 y1 y2 y3 y4 y5 y6 y7 y8 y9 y10 y11 y12, LeO (selvedgelaw15_CutFeeds.j1 k y0 y1 y2 y3 y4 y5 y6 y7 y8 y9 y10 y11 y12) (selvedgelaw15_CutFeeds.j1 (k + 1) y0 y1 y2 y3 y4 y5 y6 y7 y8 y9 y10 y11 y12)) ∧ (∀ y0 y1 y2 y3 y4 y5 y6 y7 y8 y9, LeO (selvedgelaw15_CutFeeds.j2 k y0 y1 y2 y3 y4 y5 y6 y7 y8 y9) (selvedgelaw15_CutFeeds.j2 (k + 1) y0 y1 y2 y3 y4 y5 y6 y7 y8 y9))
 | 0 => ⟨fun _ _ _ _ _ _ _ _ _ _ r h => by simp [selvedgelaw15_CutFeeds.j0] at h, fun _ _ _ _ _ _ _ _ _ _ _ _ _ r h => by simp [selvedgelaw15_CutFeeds.j1] at h, fun _ _ _ _ _ _ _ _ _ _ r h => by simp [selvedgelaw15_CutFeeds.j2] at h⟩
 | k + 1 => by
  obtain ⟨ih0, ih1, ih2⟩ := selvedgelaw15_CutFeeds.mono_l k
  refine ⟨?_, ?_, ?_⟩
  ·
   intro y0 y1 y2 y3 y4 y5 y6 y7 y8 y9
   unfold selvedgelaw15_CutFeeds.j0
   repeat' first
   | (with_reducible exact ih0 _ _ _ _ _ _ _ _ _ _)
   | (with_reducible exact ih1 _ _ _ _ _ _ _ _ _ _ _ _ _)
   | (with_reducible exact ih2 _ _ _ _ _ _ _ _ _ _)
   | (with_reducible exact cut_Feed.mono _ _ _ _ _)
   | (with_reducible exact cut_Fits.mono _ _ _)
   | (with_reducible exact selvedgelaw15_shown.mono _)
   | (with_reducible exact selvedgeref15_Blocks.mono _ _ _)
   | (with_reducible exact selvedgeref15_Digest.mono _ _ _ _)
   | (with_reducible exact selvedgeref15_Feed.mono _ _ _ _ _)
   | (with_reducible exact selvedgeref15_Fits.mono _ _ _)
   | (with_reducible exact selvedgeref15_Same.mono _ _ _ _ _ _ _)
   | (with_reducible exact LeO.refl _)
   | (with_reducible exact LeO.none _)
   | (with_reducible refine LeO.ite ?_ ?_)
   | (with_reducible refine LeO.bind ?_ (fun _ => ?_))
   | exact ih0 _ _ _ _ _ _ _ _ _ _
   | exact ih1 _ _ _ _ _ _ _ _ _ _ _ _ _
   | exact ih2 _ _ _ _ _ _ _ _ _ _
   | exact cut_Feed.mono _ _ _ _ _
   | exact cut_Fits.mono _ _ _
   | exact selvedgelaw15_shown.mono _
   | exact selvedgeref15_Blocks.mono _ _ _
   | exact selvedgeref15_Digest.mono _ _ _ _
   | exact selvedgeref15_Feed.mono _ _ _ _ _
   | exact selvedgeref15_Fits.mono _ _ _
   | exact selvedgeref15_Same.mono _ _ _ _ _ _ _
   | exact LeO.none _
   | refine LeO.ite ?_ ?_
   | refine LeO.bind ?_ (fun _ => ?_)
  ·
   intro y0 y1 y2 y3 y4 y5 y6 y7 y8 y9 y10 y11 y12
   unfold selvedgelaw15_CutFeeds.j1
   repeat' first
   | (with_reducible exact ih0 _ _ _ _ _ _ _ _ _ _)
   | (with_reducible exact ih1 _ _ _ _ _ _ _ _ _ _ _ _ _)
   | (with_reducible exact ih2 _ _ _ _ _ _ _ _ _ _)
   | (with_reducible exact cut_Feed.mono _ _ _ _ _)
   | (with_reducible exact cut_Fits.mono _ _ _)
   | (with_reducible exact selvedgelaw15_shown.mono _)
   | (with_reducible exact selvedgeref15_Blocks.mono _ _ _)
   | (with_reducible exact selvedgeref15_Digest.mono _ _ _ _)
   | (with_reducible exact selvedgeref15_Feed.mono _ _ _ _ _)
   | (with_reducible exact selvedgeref15_Fits.mono _ _ _)
   | (with_reducible exact selvedgeref15_Same.mono _ _ _ _ _ _ _)
   | (with_reducible exact LeO.refl _)
   | (with_reducible exact LeO.none _)
   | (with_reducible refine LeO.ite ?_ ?_)
   | (with_reducible refine LeO.bind ?_ (fun _ => ?_))
   | exact ih0 _ _ _ _ _ _ _ _ _ _
   | exact ih1 _ _ _ _ _ _ _ _ _ _ _ _ _
   | exact ih2 _ _ _ _ _ _ _ _ _ _
   | exact cut_Feed.mono _ _ _ _ _
   | exact cut_Fits.mono _ _ _
   | exact selvedgelaw15_shown.mono _
   | exact selvedgeref15_Blocks.mono _ _ _
   | exact selvedgeref15_Digest.mono _ _ _ _
   | exact selvedgeref15_Feed.mono _ _ _ _ _
   | exact selvedgeref15_Fits.mono _ _ _
   | exact selvedgeref15_Same.mono _ _ _ _ _ _ _
   | exact LeO.none _
   | refine LeO.ite ?_ ?_
   | refine LeO.bind ?_ (fun _ => ?_)
  ·
   intro y0 y1 y2 y3 y4 y5 y6 y7 y8 y9
   unfold selvedgelaw15_CutFeeds.j2
   repeat' first
   | (with_reducible exact ih0 _ _ _ _ _ _ _ _ _ _)
   | (with_reducible exact ih1 _ _ _ _ _ _ _ _ _ _ _ _ _)
   | (with_reducible exact ih2 _ _ _ _ _ _ _ _ _ _)
   | (with_reducible exact cut_Feed.mono _ _ _ _ _)
   | (with_reducible exact cut_Fits.mono _ _ _)
   | (with_reducible exact selvedgelaw15_shown.mono _)
   | (with_reducible exact selvedgeref15_Blocks.mono _ _ _)
   | (with_reducible exact selvedgeref15_Digest.mono _ _ _ _)
   | (with_reducible exact selvedgeref15_Feed.mono _ _ _ _ _)
   | (with_reducible exact selvedgeref15_Fits.mono _ _ _)
   | (with_reducible exact selvedgeref15_Same.mono _ _ _ _ _ _ _)
   | (with_reducible exact LeO.refl _)
   | (with_reducible exact LeO.none _)
   | (with_reducible refine LeO.ite ?_ ?_)
   | (with_reducible refine LeO.bind ?_ (fun _ => ?_))
   | exact ih0 _ _ _ _ _ _ _ _ _ _
   | exact ih1 _ _ _ _ _ _ _ _ _ _ _ _ _
   | exact ih2 _ _ _ _ _ _ _ _ _ _
   | exact cut_Feed.mono _ _ _ _ _
   | exact cut_Fits.mono _ _ _
   | exact selvedgelaw15_shown.mono _
   | exact selvedgeref15_Blocks.mono _ _ _
   | exact selvedgeref15_Digest.mono _ _ _ _
   | exact selvedgeref15_Feed.mono _ _ _ _ _
   | exact selvedgeref15_Fits.mono _ _ _
   | exact selvedgeref15_Same.mono _ _ _ _ _ _ _
   | exact LeO.none _
   | refine LeO.ite ?_ ?_
   | refine LeO.bind ?_ (fun _ => ?_)
theorem selvedgelaw15_CutFeeds.mono : ∀ a0 a1 a2 a3 a4 a5 a6 a7 k, LeO (selvedgelaw15_CutFeeds.f k a0 a1 a2 a3 a4 a5 a6 a7) (selvedgelaw15_CutFeeds.f (k + 1) a0 a1 a2 a3 a4 a5 a6 a7) := by
 intro a0 a1 a2 a3 a4 a5 a6 a7 k
 obtain ⟨ih0, ih1, ih2⟩ := selvedgelaw15_CutFeeds.mono_l k
 unfold selvedgelaw15_CutFeeds.f
 repeat' first
   | (with_reducible exact ih0 _ _ _ _ _ _ _ _ _ _)
   | (with_reducible exact ih1 _ _ _ _ _ _ _ _ _ _ _ _ _)
   | (with_reducible exact ih2 _ _ _ _ _ _ _ _ _ _)
   | (with_reducible exact cut_Feed.mono _ _ _ _ _)
   | (with_reducible exact cut_Fits.mono _ _ _)
   | (with_reducible exact selvedgelaw15_shown.mono _)
   | (with_reducible exact selvedgeref15_Blocks.mono _ _ _)
   | (with_reducible exact selvedgeref15_Digest.mono _ _ _ _)
   | (with_reducible exact selvedgeref15_Feed.mono _ _ _ _ _)
   | (with_reducible exact selvedgeref15_Fits.mono _ _ _)
   | (with_reducible exact selvedgeref15_Same.mono _ _ _ _ _ _ _)
   | (with_reducible exact LeO.refl _)
   | (with_reducible exact LeO.none _)
   | (with_reducible refine LeO.ite ?_ ?_)
   | (with_reducible refine LeO.bind ?_ (fun _ => ?_))
   | exact ih0 _ _ _ _ _ _ _ _ _ _
   | exact ih1 _ _ _ _ _ _ _ _ _ _ _ _ _
   | exact ih2 _ _ _ _ _ _ _ _ _ _
   | exact cut_Feed.mono _ _ _ _ _
   | exact cut_Fits.mono _ _ _
   | exact selvedgelaw15_shown.mono _
   | exact selvedgeref15_Blocks.mono _ _ _
   | exact selvedgeref15_Digest.mono _ _ _ _
   | exact selvedgeref15_Feed.mono _ _ _ _ _
   | exact selvedgeref15_Fits.mono _ _ _
   | exact selvedgeref15_Same.mono _ _ _ _ _ _ _
   | exact LeO.none _
   | refine LeO.ite ?_ ?_
   | refine LeO.bind ?_ (fun _ => ?_)
def selvedgelaw15_CutFeeds.T14 : Bool × List (List Nat × List Nat) := (true, [([], []), ([0], [0]), ([1], [1]), ([1, 2], [1, 2]), ([3, 1], [3]), ([4], [4]), ([4, 5], [4, 5]), ([6, 4], [6]), ([7], [7]), ([8, 7, 7], [7, 8]), ([7], [7]), ([10, 9, 7], [7, 10]), ([9, 11, 7], [7, 9, 11]), ([7, 12], [7, 12]), ([13, 11], [13]), ([14], [14]), ([15, 14], [14, 15]), ([14], [14]), ([16, 17, 14, 14], [14, 16, 17]), ([14], [14]), ([19, 14], [14, 19]), ([14], [14]), ([20, 21, 18, 14], [14, 20, 21]), ([18, 22, 14], [14, 18, 22]), ([14, 23], [14, 23]), ([24, 22, 0, 1, 2, 3, 4, 5, 6, 7, 8, 9, 10, 11, 12, 13, 14, 15, 16, 17, 18, 19, 20, 21, 22, 23, 24], [24])])
def selvedgelaw15_CutFeeds.B14 : List Nat := [0, 1, 3, 7, 15, 31, 63, 127, 255, 511, 255, 2047, 4095, 8191, 16383, 32767, 65535, 32767, 262143, 32767, 557055, 32767, 4194303, 8388607, 16777215, 33554431]
theorem selvedgelaw15_CutFeeds.tab14 : rtab .any (opsOf Try.f11 14) = selvedgelaw15_CutFeeds.T14 := by kernel_rfl
theorem selvedgelaw15_CutFeeds.bits14 : waitsOk selvedgelaw15_CutFeeds.T14.2 selvedgelaw15_CutFeeds.B14 = true := by kernel_rfl
set_option maxHeartbeats 8000000 in
set_option maxRecDepth 100000 in
theorem selvedgelaw15_CutFeeds.calls (k : Nat) (a0_0 : Int) (a0_1 : ByteArray) (A0_2 : Option Addr) (c0_2 : Nat) (l0_2 : List ByteArray) (A0_3 : Option Addr) (c0_3 : Nat) (l0_3 : List ByteArray) (a0_4 : Int) (a0_5 : ByteArray) (A0_6 : Option Addr) (c0_6 : Nat) (l0_6 : List ByteArray) (a0_7 : ByteArray) (r : Bool) (w : World) (hr0_2 : Kd.C Kd.string w A0_2 l0_2.length l0_2) (hc0_2 : l0_2.length ≤ c0_2) (hr0_3 : Kd.C Kd.string w A0_3 l0_3.length l0_3) (hc0_3 : l0_3.length ≤ c0_3) (hr0_6 : Kd.C Kd.string w A0_6 l0_6.length l0_6) (hc0_6 : l0_6.length ≤ c0_6) (h : selvedgelaw15_CutFeeds.f k a0_0 a0_1 l0_2 l0_3 a0_4 a0_5 l0_6 a0_7 = some r) :
  Calls Try.prog 11 #[.agg #[.int .i64 a0_0, .string a0_1, .slice A0_2 l0_2.length c0_2, .slice A0_3 l0_3.length c0_3, .int .i64 a0_4, .string a0_5, .slice A0_6 l0_6.length c0_6, .string a0_7]] w fun e w' => e = .returned (.bool r) ∧ Below w.heap.size w w' := by
 have hu42 := Try.underlying42
 have hu39 := Try.underlying39
 have hu40 := Try.underlying40
 have HR0_2 := Aside0.mk hr0_2
 have HC0_2 := Aside0.mk hc0_2
 clear hr0_2 hc0_2
 have HR0_3 := Aside0.mk hr0_3
 have HC0_3 := Aside0.mk hc0_3
 clear hr0_3 hc0_3
 have HR0_6 := Aside0.mk hr0_6
 have HC0_6 := Aside0.mk hc0_6
 clear hr0_6 hc0_6
 have HB := Aside0.mk (Below.refl w.heap.size w)
 have H : ((selvedgelaw15_shown.f k).bind fun t226 => (if (l0_3.length : Int) > 300 then (selvedgelaw15_CutFeeds.j0 k l0_3 a0_7 t226 true a0_0 a0_1 l0_2 a0_4 a0_5 l0_6) else (selvedgelaw15_CutFeeds.j0 k l0_3 a0_7 t226 (decide ((l0_2.length : Int) > 300)) a0_0 a0_1 l0_2 a0_4 a0_5 l0_6))) = some r := h
 clear h
 replace H := Option.bind_eq_some_iff.mp H
 obtain ⟨t226, A20, H⟩ := H
 replace H : (if (l0_3.length : Int) > 300 then (selvedgelaw15_CutFeeds.j0 k l0_3 a0_7 t226 true a0_0 a0_1 l0_2 a0_4 a0_5 l0_6) else (selvedgelaw15_CutFeeds.j0 k l0_3 a0_7 t226 (decide ((l0_2.length : Int) > 300)) a0_0 a0_1 l0_2 a0_4 a0_5 l0_6)) = some r := H
 have A2 := Aside0.mk A20
 clear A20
 have HC3 := Aside0.mk H
 clear H
 go_enter Try.func11, Try.ntmps11
 go_upto_region 6 with (first | ((with_reducible refine gate_dst (N := 1) rfl ?_); (try (refine gate_guard (by rfl) ?_; dsimp only)); refine box_event ?hg (N := 1) ?hd (cs := #[.int .i64 a0_0, .string a0_1, .slice A0_2 l0_2.length c0_2, .slice A0_3 l0_3.length c0_3, .int .i64 a0_4, .string a0_5, .slice A0_6 l0_6.length c0_6, .string a0_7]) (t := 42) ?hr ?_; (case hd => rfl); (case hg => rfl); (case hr => first | (go_simp; done) | (go_simp; rfl)); intro gb223 hg w4 hbox hb; have n0_ := Aside0.mk (below_step (by repeat (first | (with_reducible first | exact HB.out | apply below_alloc | apply pw_below_drewN | apply below_drew1) | exact HB.out)) hb); have n1_ := Aside0.mk (hbox); have n2_ := Aside0.mk ((by rw [hg]; exact (below_size (by repeat (first | (with_reducible first | exact HB.out | apply below_alloc | apply pw_below_drewN | apply below_drew1) | exact HB.out))) : w.heap.size ≤ gb223)); have n3_ := Aside0.mk ((by rw [hg]; exact (below_size (by repeat (first | (with_reducible first | exact HB.out | apply below_alloc | apply pw_below_drewN | apply below_drew1) | exact HB.out))) : w.heap.size ≤ gb223)); clear HB; have HB := n0_; have BK223 := n1_; have GW223 := n2_; have GE223 := n3_; clear n0_ n1_ n2_ n3_; clear hb hbox hg; have hcz5_0 : w4.cell? ⟨gb223, 0, none⟩ = some (.int .i64 a0_0) := (blk_cell BK223.out 0).trans rfl; have hcz5_1 : w4.cell? ⟨gb223, 1, none⟩ = some (.string a0_1) := (blk_cell BK223.out 1).trans rfl; have hcz5_2 : w4.cell? ⟨gb223, 2, none⟩ = some (.slice A0_2 l0_2.length c0_2) := (blk_cell BK223.out 2).trans rfl; have hcz5_3 : w4.cell? ⟨gb223, 3, none⟩ = some (.slice A0_3 l0_3.length c0_3) := (blk_cell BK223.out 3).trans rfl; have hcz5_4 : w4.cell? ⟨gb223, 4, none⟩ = some (.int .i64 a0_4) := (blk_cell BK223.out 4).trans rfl; have hcz5_5 : w4.cell? ⟨gb223, 5, none⟩ = some (.string a0_5) := (blk_cell BK223.out 5).trans rfl; have hcz5_6 : w4.cell? ⟨gb223, 6, none⟩ = some (.slice A0_6 l0_6.length c0_6) := (blk_cell BK223.out 6).trans rfl; have hcz5_7 : w4.cell? ⟨gb223, 7, none⟩ = some (.string a0_7) := (blk_cell BK223.out 7).trans rfl; have hfz5_0 := blk_frozen BK223.out 0; have hfz5_1 := blk_frozen BK223.out 1; have hfz5_2 := blk_frozen BK223.out 2; have hfz5_3 := blk_frozen BK223.out 3; have hfz5_4 := blk_frozen BK223.out 4; have hfz5_5 := blk_frozen BK223.out 5; have hfz5_6 := blk_frozen BK223.out 6; have hfz5_7 := blk_frozen BK223.out 7) | ((with_reducible refine gate_dst (N := 3) rfl ?_); (try (refine gate_guard (by rfl) ?_; dsimp only)); refine box_event ?hg (N := 3) ?hd (cs := #[.int .i64 0, .string (⟨#[]⟩ : ByteArray), .slice none 0 0]) (t := 39) ?hr ?_; (case hd => rfl); (case hg => rfl); (case hr => first | (go_simp; done) | (go_simp; rfl)); intro gb224 hg w6 hbox hb; have n0_ := Aside0.mk (blk_below (g := gb223) (o := .cells #[.int .i64 a0_0, .string a0_1, .slice A0_2 l0_2.length c0_2, .slice A0_3 l0_3.length c0_3, .int .i64 a0_4, .string a0_5, .slice A0_6 l0_6.length c0_6, .string a0_7] 42 (0, 0)) (pB BK223.out) hb); have n1_ := Aside0.mk (below_step (by repeat (first | (with_reducible first | exact HB.out | apply below_alloc | apply pw_below_drewN | apply below_drew1 | refine below_set ?_ GE223.out) | exact HB.out)) hb); have n2_ := Aside0.mk (hbox); have n3_ := Aside0.mk ((by rw [hg]; exact (below_size (by repeat (first | (with_reducible first | exact HB.out | apply below_alloc | apply pw_below_drewN | apply below_drew1 | refine below_set ?_ GE223.out) | exact HB.out))) : w.heap.size ≤ gb224)); have n4_ := Aside0.mk ((by rw [hg]; exact (below_size (by repeat (first | (with_reducible first | exact HB.out | apply below_alloc | apply pw_below_drewN | apply below_drew1 | refine below_set ?_ GE223.out) | exact HB.out))) : w.heap.size ≤ gb224)); have n5_ := Aside0.mk ((by rw [hg]; exact Nat.ne_of_lt (blk_lt (g := gb223) (o := .cells #[.int .i64 a0_0, .string a0_1, .slice A0_2 l0_2.length c0_2, .slice A0_3 l0_3.length c0_3, .int .i64 a0_4, .string a0_5, .slice A0_6 l0_6.length c0_6, .string a0_7] 42 (0, 0)) (pB BK223.out)) : gb223 ≠ gb224)); have n6_ := Aside0.mk ((by rw [hg]; exact Nat.ne_of_gt (blk_lt (g := gb223) (o := .cells #[.int .i64 a0_0, .string a0_1, .slice A0_2 l0_2.length c0_2, .slice A0_3 l0_3.length c0_3, .int .i64 a0_4, .string a0_5, .slice A0_6 l0_6.length c0_6, .string a0_7] 42 (0, 0)) (pB BK223.out)) : gb224 ≠ gb223)); clear BK223; clear HB; have BK223 := n0_; have HB := n1_; have BK224 := n2_; have GW224 := n3_; have GE224 := n4_; have NB223_224 := n5_; have NB224_223 := n6_; clear n0_ n1_ n2_ n3_ n4_ n5_ n6_; clear hb hbox hg; have hnb7 := NB224_223.out; have hnc7 := NB223_224.out; have hcz8_0 : w6.cell? ⟨gb224, 0, none⟩ = some (.int .i64 0) := (blk_cell BK224.out 0).trans rfl; have hcz8_1 : w6.cell? ⟨gb224, 1, none⟩ = some (.string (⟨#[]⟩ : ByteArray)) := (blk_cell BK224.out 1).trans rfl; have hcz8_2 : w6.cell? ⟨gb224, 2, none⟩ = some (.slice none 0 0) := (blk_cell BK224.out 2).trans rfl; have hfz8_0 := blk_frozen BK224.out 0; have hfz8_1 := blk_frozen BK224.out 1; have hfz8_2 := blk_frozen BK224.out 2; have hcz9_0 : w6.cell? ⟨gb223, 0, none⟩ = some (.int .i64 a0_0) := (blk_cell BK223.out 0).trans rfl; have hcz9_1 : w6.cell? ⟨gb223, 1, none⟩ = some (.string a0_1) := (blk_cell BK223.out 1).trans rfl; have hcz9_2 : w6.cell? ⟨gb223, 2, none⟩ = some (.slice A0_2 l0_2.length c0_2) := (blk_cell BK223.out 2).trans rfl; have hcz9_3 : w6.cell? ⟨gb223, 3, none⟩ = some (.slice A0_3 l0_3.length c0_3) := (blk_cell BK223.out 3).trans rfl; have hcz9_4 : w6.cell? ⟨gb223, 4, none⟩ = some (.int .i64 a0_4) := (blk_cell BK223.out 4).trans rfl; have hcz9_5 : w6.cell? ⟨gb223, 5, none⟩ = some (.string a0_5) := (blk_cell BK223.out 5).trans rfl; have hcz9_6 : w6.cell? ⟨gb223, 6, none⟩ = some (.slice A0_6 l0_6.length c0_6) := (blk_cell BK223.out 6).trans rfl; have hcz9_7 : w6.cell? ⟨gb223, 7, none⟩ = some (.string a0_7) := (blk_cell BK223.out 7).trans rfl; have hfz9_0 := blk_frozen BK223.out 0; have hfz9_1 := blk_frozen BK223.out 1; have hfz9_2 := blk_frozen BK223.out 2; have hfz9_3 := blk_frozen BK223.out 3; have hfz9_4 := blk_frozen BK223.out 4; have hfz9_5 := blk_frozen BK223.out 5; have hfz9_6 := blk_frozen BK223.out 6; have hfz9_7 := blk_frozen BK223.out 7) | ((with_reducible refine gate_dst (N := 5) rfl ?_); (try (refine gate_guard (by rfl) ?_; dsimp only)); refine box_event ?hg (N := 5) ?hd (cs := #[.int .i64 0, .string (⟨#[]⟩ : ByteArray), .slice none 0 0]) (t := 40) ?hr ?_; (case hd => rfl); (case hg => rfl); (case hr => first | (go_simp; done) | (go_simp; rfl)); intro gb225 hg w10 hbox hb; have n0_ := Aside0.mk (blk_below (g := gb223) (o := .cells #[.int .i64 a0_0, .string a0_1, .slice A0_2 l0_2.length c0_2, .slice A0_3 l0_3.length c0_3, .int .i64 a0_4, .string a0_5, .slice A0_6 l0_6.length c0_6, .string a0_7] 42 (0, 0)) (by (with_reducible repeat (first | refine blk_drewN ?_ _ | refine blk_drew ?_ | refine blk_alloc ?_ _)); refine blk_far ?_ NB223_224.out _; (with_reducible repeat (first | refine blk_drewN ?_ _ | refine blk_drew ?_ | refine blk_alloc ?_ _)); refine blk_far ?_ NB223_224.out _; (with_reducible repeat (first | refine blk_drewN ?_ _ | refine blk_drew ?_ | refine blk_alloc ?_ _)); refine blk_far ?_ NB223_224.out _; (with_reducible repeat (first | refine blk_drewN ?_ _ | refine blk_drew ?_ | refine blk_alloc ?_ _)); exact BK223.out) hb); have n1_ := Aside0.mk (blk_below (g := gb224) (o := .cells #[.int .i64 a0_0, .string a0_1, .slice A0_2 l0_2.length c0_2] 39 (0, 0)) (by (with_reducible repeat (first | refine blk_drewN ?_ _ | refine blk_drew ?_ | refine blk_alloc ?_ _)); refine blk_put (cs := #[.int .i64 a0_0, .string a0_1, .slice none 0 0]) ?_ 2 _ rfl; (with_reducible repeat (first | refine blk_drewN ?_ _ | refine blk_drew ?_ | refine blk_alloc ?_ _)); refine blk_put (cs := #[.int .i64 a0_0, .string (⟨#[]⟩ : ByteArray), .slice none 0 0]) ?_ 1 _ rfl; (with_reducible repeat (first | refine blk_drewN ?_ _ | refine blk_drew ?_ | refine blk_alloc ?_ _)); refine blk_put (cs := #[.int .i64 0, .string (⟨#[]⟩ : ByteArray), .slice none 0 0]) ?_ 0 _ rfl; (with_reducible repeat (first | refine blk_drewN ?_ _ | refine blk_drew ?_ | refine blk_alloc ?_ _)); exact BK224.out) hb); have n2_ := Aside0.mk (below_step (by repeat (first | (with_reducible first | exact HB.out | apply below_alloc | apply pw_below_drewN | apply below_drew1 | refine below_set ?_ GE223.out | refine below_set ?_ GE224.out) | exact HB.out)) hb); have n3_ := Aside0.mk (hbox); have n4_ := Aside0.mk ((by rw [hg]; exact (below_size (by repeat (first | (with_reducible first | exact HB.out | apply below_alloc | apply pw_below_drewN | apply below_drew1 | refine below_set ?_ GE223.out | refine below_set ?_ GE224.out) | exact HB.out))) : w.heap.size ≤ gb225)); have n5_ := Aside0.mk ((by rw [hg]; exact (below_size (by repeat (first | (with_reducible first | exact HB.out | apply below_alloc | apply pw_below_drewN | apply below_drew1 | refine below_set ?_ GE223.out | refine below_set ?_ GE224.out) | exact HB.out))) : w.heap.size ≤ gb225)); have n6_ := Aside0.mk ((by rw [hg]; exact Nat.ne_of_lt (blk_lt (g := gb223) (o := .cells #[.int .i64 a0_0, .string a0_1, .slice A0_2 l0_2.length c0_2, .slice A0_3 l0_3.length c0_3, .int .i64 a0_4, .string a0_5, .slice A0_6 l0_6.length c0_6, .string a0_7] 42 (0, 0)) (by (with_reducible repeat (first | refine blk_drewN ?_ _ | refine blk_drew ?_ | refine blk_alloc ?_ _)); refine blk_far ?_ NB223_224.out _; (with_reducible repeat (first | refine blk_drewN ?_ _ | refine blk_drew ?_ | refine blk_alloc ?_ _)); refine blk_far ?_ NB223_224.out _; (with_reducible repeat (first | refine blk_drewN ?_ _ | refine blk_drew ?_ | refine blk_alloc ?_ _)); refine blk_far ?_ NB223_224.out _; (with_reducible repeat (first | refine blk_drewN ?_ _ | refine blk_drew ?_ | refine blk_alloc ?_ _)); exact BK223.out)) : gb223 ≠ gb225)); have n7_ := Aside0.mk ((by rw [hg]; exact Nat.ne_of_gt (blk_lt (g := gb223) (o := .cells #[.int .i64 a0_0, .string a0_1, .slice A0_2 l0_2.length c0_2, .slice A0_3 l0_3.length c0_3, .int .i64 a0_4, .string a0_5, .slice A0_6 l0_6.length c0_6, .string a0_7] 42 (0, 0)) (by (with_reducible repeat (first | refine blk_drewN ?_ _ | refine blk_drew ?_ | refine blk_alloc ?_ _)); refine blk_far ?_ NB223_224.out _; (with_reducible repeat (first | refine blk_drewN ?_ _ | refine blk_drew ?_ | refine blk_alloc ?_ _)); refine blk_far ?_ NB223_224.out _; (with_reducible repeat (first | refine blk_drewN ?_ _ | refine blk_drew ?_ | refine blk_alloc ?_ _)); refine blk_far ?_ NB223_224.out _; (with_reducible repeat (first | refine blk_drewN ?_ _ | refine blk_drew ?_ | refine blk_alloc ?_ _)); exact BK223.out)) : gb225 ≠ gb223)); have n8_ := Aside0.mk ((by rw [hg]; exact Nat.ne_of_lt (blk_lt (g := gb224) (o := .cells #[.int .i64 a0_0, .string a0_1, .slice A0_2 l0_2.length c0_2] 39 (0, 0)) (by (with_reducible repeat (first | refine blk_drewN ?_ _ | refine blk_drew ?_ | refine blk_alloc ?_ _)); refine blk_put (cs := #[.int .i64 a0_0, .string a0_1, .slice none 0 0]) ?_ 2 _ rfl; (with_reducible repeat (first | refine blk_drewN ?_ _ | refine blk_drew ?_ | refine blk_alloc ?_ _)); refine blk_put (cs := #[.int .i64 a0_0, .string (⟨#[]⟩ : ByteArray), .slice none 0 0]) ?_ 1 _ rfl; (with_reducible repeat (first | refine blk_drewN ?_ _ | refine blk_drew ?_ | refine blk_alloc ?_ _)); refine blk_put (cs := #[.int .i64 0, .string (⟨#[]⟩ : ByteArray), .slice none 0 0]) ?_ 0 _ rfl; (with_reducible repeat (first | refine blk_drewN ?_ _ | refine blk_drew ?_ | refine blk_alloc ?_ _)); exact BK224.out)) : gb224 ≠ gb225)); have n9_ := Aside0.mk ((by rw [hg]; exact Nat.ne_of_gt (blk_lt (g := gb224) (o := .cells #[.int .i64 a0_0, .string a0_1, .slice A0_2 l0_2.length c0_2] 39 (0, 0)) (by (with_reducible repeat (first | refine blk_drewN ?_ _ | refine blk_drew ?_ | refine blk_alloc ?_ _)); refine blk_put (cs := #[.int .i64 a0_0, .string a0_1, .slice none 0 0]) ?_ 2 _ rfl; (with_reducible repeat (first | refine blk_drewN ?_ _ | refine blk_drew ?_ | refine blk_alloc ?_ _)); refine blk_put (cs := #[.int .i64 a0_0, .string (⟨#[]⟩ : ByteArray), .slice none 0 0]) ?_ 1 _ rfl; (with_reducible repeat (first | refine blk_drewN ?_ _ | refine blk_drew ?_ | refine blk_alloc ?_ _)); refine blk_put (cs := #[.int .i64 0, .string (⟨#[]⟩ : ByteArray), .slice none 0 0]) ?_ 0 _ rfl; (with_reducible repeat (first | refine blk_drewN ?_ _ | refine blk_drew ?_ | refine blk_alloc ?_ _)); exact BK224.out)) : gb225 ≠ gb224)); clear BK223; clear BK224; clear HB; have BK223 := n0_; have BK224 := n1_; have HB := n2_; have BK225 := n3_; have GW225 := n4_; have GE225 := n5_; have NB223_225 := n6_; have NB225_223 := n7_; have NB224_225 := n8_; have NB225_224 := n9_; clear n0_ n1_ n2_ n3_ n4_ n5_ n6_ n7_ n8_ n9_; clear hb hbox hg; have hnb11 := NB225_223.out; have hnc11 := NB223_225.out; have hnb12 := NB225_224.out; have hnc12 := NB224_225.out; have hcz13_0 : w10.cell? ⟨gb225, 0, none⟩ = some (.int .i64 0) := (blk_cell BK225.out 0).trans rfl; have hcz13_1 : w10.cell? ⟨gb225, 1, none⟩ = some (.string (⟨#[]⟩ : ByteArray)) := (blk_cell BK225.out 1).trans rfl; have hcz13_2 : w10.cell? ⟨gb225, 2, none⟩ = some (.slice none 0 0) := (blk_cell BK225.out 2).trans rfl; have hfz13_0 := blk_frozen BK225.out 0; have hfz13_1 := blk_frozen BK225.out 1; have hfz13_2 := blk_frozen BK225.out 2; have hcz14_0 : w10.cell? ⟨gb223, 0, none⟩ = some (.int .i64 a0_0) := (blk_cell BK223.out 0).trans rfl; have hcz14_1 : w10.cell? ⟨gb223, 1, none⟩ = some (.string a0_1) := (blk_cell BK223.out 1).trans rfl; have hcz14_2 : w10.cell? ⟨gb223, 2, none⟩ = some (.slice A0_2 l0_2.length c0_2) := (blk_cell BK223.out 2).trans rfl; have hcz14_3 : w10.cell? ⟨gb223, 3, none⟩ = some (.slice A0_3 l0_3.length c0_3) := (blk_cell BK223.out 3).trans rfl; have hcz14_4 : w10.cell? ⟨gb223, 4, none⟩ = some (.int .i64 a0_4) := (blk_cell BK223.out 4).trans rfl; have hcz14_5 : w10.cell? ⟨gb223, 5, none⟩ = some (.string a0_5) := (blk_cell BK223.out 5).trans rfl; have hcz14_6 : w10.cell? ⟨gb223, 6, none⟩ = some (.slice A0_6 l0_6.length c0_6) := (blk_cell BK223.out 6).trans rfl; have hcz14_7 : w10.cell? ⟨gb223, 7, none⟩ = some (.string a0_7) := (blk_cell BK223.out 7).trans rfl; have hfz14_0 := blk_frozen BK223.out 0; have hfz14_1 := blk_frozen BK223.out 1; have hfz14_2 := blk_frozen BK223.out 2; have hfz14_3 := blk_frozen BK223.out 3; have hfz14_4 := blk_frozen BK223.out 4; have hfz14_5 := blk_frozen BK223.out 5; have hfz14_6 := blk_frozen BK223.out 6; have hfz14_7 := blk_frozen BK223.out 7) | ((with_reducible refine gate_callee (f := 37) rfl ?_); refine goesL_ (some 26) rfl rfl Try.func37 (by kernel_rfl) rfl #[] rfl (by (try simp only [List.map_toArray, List.map_cons, List.map_nil]); first | done | rfl | (simp only [List.length_drop, List.length_take]; rfl)) ?_; (with_reducible refine (selvedgelaw15_shown.calls k  t226 _ A2.out).mono ?_); rintro e w15 ⟨rfl, hb⟩; refine ⟨_, rfl, ?_⟩; have n0_ := Aside0.mk (blk_below (g := gb223) (o := .cells #[.int .i64 a0_0, .string a0_1, .slice A0_2 l0_2.length c0_2, .slice A0_3 l0_3.length c0_3, .int .i64 a0_4, .string a0_5, .slice A0_6 l0_6.length c0_6, .string a0_7] 42 (0, 0)) (by (with_reducible repeat (first | refine blk_drewN ?_ _ | refine blk_drew ?_ | refine blk_alloc ?_ _)); refine blk_far ?_ NB223_225.out _; (with_reducible repeat (first | refine blk_drewN ?_ _ | refine blk_drew ?_ | refine blk_alloc ?_ _)); refine blk_far ?_ NB223_225.out _; (with_reducible repeat (first | refine blk_drewN ?_ _ | refine blk_drew ?_ | refine blk_alloc ?_ _)); refine blk_far ?_ NB223_225.out _; (with_reducible repeat (first | refine blk_drewN ?_ _ | refine blk_drew ?_ | refine blk_alloc ?_ _)); exact BK223.out) hb); have n1_ := Aside0.mk (blk_below (g := gb224) (o := .cells #[.int .i64 a0_0, .string a0_1, .slice A0_2 l0_2.length c0_2] 39 (0, 0)) (by (with_reducible repeat (first | refine blk_drewN ?_ _ | refine blk_drew ?_ | refine blk_alloc ?_ _)); refine blk_far ?_ NB224_225.out _; (with_reducible repeat (first | refine blk_drewN ?_ _ | refine blk_drew ?_ | refine blk_alloc ?_ _)); refine blk_far ?_ NB224_225.out _; (with_reducible repeat (first | refine blk_drewN ?_ _ | refine blk_drew ?_ | refine blk_alloc ?_ _)); refine blk_far ?_ NB224_225.out _; (with_reducible repeat (first | refine blk_drewN ?_ _ | refine blk_drew ?_ | refine blk_alloc ?_ _)); exact BK224.out) hb); have n2_ := Aside0.mk (blk_below (g := gb225) (o := .cells #[.int .i64 a0_4, .string a0_5, .slice A0_6 l0_6.length c0_6] 40 (0, 0)) (by (with_reducible repeat (first | refine blk_drewN ?_ _ | refine blk_drew ?_ | refine blk_alloc ?_ _)); refine blk_put (cs := #[.int .i64 a0_4, .string a0_5, .slice none 0 0]) ?_ 2 _ rfl; (with_reducible repeat (first | refine blk_drewN ?_ _ | refine blk_drew ?_ | refine blk_alloc ?_ _)); refine blk_put (cs := #[.int .i64 a0_4, .string (⟨#[]⟩ : ByteArray), .slice none 0 0]) ?_ 1 _ rfl; (with_reducible repeat (first | refine blk_drewN ?_ _ | refine blk_drew ?_ | refine blk_alloc ?_ _)); refine blk_put (cs := #[.int .i64 0, .string (⟨#[]⟩ : ByteArray), .slice none 0 0]) ?_ 0 _ rfl; (with_reducible repeat (first | refine blk_drewN ?_ _ | refine blk_drew ?_ | refine blk_alloc ?_ _)); exact BK225.out) hb); have n3_ := Aside0.mk (below_step (by repeat (first | (with_reducible first | exact HB.out | apply below_alloc | apply pw_below_drewN | apply below_drew1 | refine below_set ?_ GE223.out | refine below_set ?_ GE224.out | refine below_set ?_ GE225.out) | exact HB.out)) hb); clear BK223; clear BK224; clear BK225; clear HB; have BK223 := n0_; have BK224 := n1_; have BK225 := n2_; have HB := n3_; clear n0_ n1_ n2_ n3_; (try clear hb); (try clear hb2); (try clear hk); (try clear hi)))
 (try simp only [Act.put, List.setIfInBounds_toArray, List.set_cons_zero, List.set_cons_succ])
 go_cut [35] (fun v35 wc => ∃ (kq : Nat) (x35_2 : Bool), v35 = .bool x35_2 ∧ Aside0 (selvedgelaw15_CutFeeds.j0 kq l0_3 a0_7 t226 x35_2 a0_0 a0_1 l0_2 a0_4 a0_5 l0_6 = some r) ∧ Aside0 (kq ≤ k) ∧ Aside0 (wc.heap[gb223]? = some (.cells #[.int .i64 a0_0, .string a0_1, (.slice A0_2 l0_2.length c0_2), (.slice A0_3 l0_3.length c0_3), .int .i64 a0_4, .string a0_5, (.slice A0_6 l0_6.length c0_6), .string a0_7] 42 (0, 0))) ∧ Aside0 (wc.heap[gb224]? = some (.cells #[.int .i64 a0_0, .string a0_1, (.slice A0_2 l0_2.length c0_2)] 39 (0, 0))) ∧ Aside0 (wc.heap[gb225]? = some (.cells #[.int .i64 a0_4, .string a0_5, (.slice A0_6 l0_6.length c0_6)] 40 (0, 0))) ∧ Aside0 (Below w.heap.size w wc))
 case first =>
  have H := HC3.out
  clear HC3
  by_cases c16 : (l0_3.length : Int) > 300
  ·
   rw [if_pos c16] at H
   have c16b0 : decide (300 < (l0_3.length : Int)) = true := decide_eq_true c16
   have c16b1 : decide (300 < l0_3.length) = true := decide_eq_true (by omega)
   clear c16
   (first | rw [c16b0] | (simp only [i64_w, i32_w]; rw [c16b0]) | skip)
   have H' := Aside0.mk H
   clear H
   go_wp2
   go_meet
   case rel => exact ⟨_, (true), (by first | rfl | (simp; done) | (simp [*]; done)), H', ⟨by first | omega | exact Nat.le_refl _⟩, ⟨by (with_reducible repeat (first | refine blk_drewN ?_ _ | refine blk_drew ?_ | refine blk_alloc ?_ _)); exact BK223.out⟩, ⟨by (with_reducible repeat (first | refine blk_drewN ?_ _ | refine blk_drew ?_ | refine blk_alloc ?_ _)); exact BK224.out⟩, ⟨by (with_reducible repeat (first | refine blk_drewN ?_ _ | refine blk_drew ?_ | refine blk_alloc ?_ _)); exact BK225.out⟩, ⟨by repeat (first | (with_reducible first | exact HB.out | apply below_alloc | apply pw_below_drewN | apply below_drew1 | refine below_set ?_ GE223.out | refine below_set ?_ GE224.out | refine below_set ?_ GE225.out) | exact HB.out)⟩⟩
  ·
   rw [if_neg c16] at H
   have c16b0 : decide (300 < (l0_3.length : Int)) = false := decide_eq_false c16
   have c16b1 : decide (300 < l0_3.length) = false := decide_eq_false (by omega)
   clear c16
   (first | rw [c16b0] | (simp only [i64_w, i32_w]; rw [c16b0]) | skip)
   have H' := Aside0.mk H
   clear H
   have hnb17 := NB224_223.out
   have hnc17 := NB223_224.out
   have hnb18 := NB224_225.out
   have hnc18 := NB225_224.out
   have hcz19_0 : w15.cell? ⟨gb224, 0, none⟩ = some (.int .i64 a0_0) := (blk_cell BK224.out 0).trans rfl
   have hcz19_1 : w15.cell? ⟨gb224, 1, none⟩ = some (.string a0_1) := (blk_cell BK224.out 1).trans rfl
   have hcz19_2 : w15.cell? ⟨gb224, 2, none⟩ = some (.slice A0_2 l0_2.length c0_2) := (blk_cell BK224.out 2).trans rfl
   have hfz19_0 := blk_frozen BK224.out 0
   have hfz19_1 := blk_frozen BK224.out 1
   have hfz19_2 := blk_frozen BK224.out 2
   go_wp2
   go_meet
   case rel => exact ⟨_, (decide ((l0_2.length : Int) > 300)), (by first | rfl | (simp; done) | (simp [*]; done)), H', ⟨by first | omega | exact Nat.le_refl _⟩, ⟨by (with_reducible repeat (first | refine blk_drewN ?_ _ | refine blk_drew ?_ | refine blk_alloc ?_ _)); exact BK223.out⟩, ⟨by (with_reducible repeat (first | refine blk_drewN ?_ _ | refine blk_drew ?_ | refine blk_alloc ?_ _)); exact BK224.out⟩, ⟨by (with_reducible repeat (first | refine blk_drewN ?_ _ | refine blk_drew ?_ | refine blk_alloc ?_ _)); exact BK225.out⟩, ⟨by repeat (first | (with_reducible first | exact HB.out | apply below_alloc | apply pw_below_drewN | apply below_drew1 | refine below_set ?_ GE223.out | refine below_set ?_ GE224.out | refine below_set ?_ GE225.out) | exact HB.out)⟩⟩
 case rest =>
  clear HC3
  try clear c1
  try clear p2
  try clear c3
  try clear c7
  try clear c11
  try clear c12
  try clear c16
  try clear c16b0
  try clear c16b1
  try clear c17
  try clear c18
  try clear hcz13_0
  try clear hcz13_1
  try clear hcz13_2
  try clear hcz14_0
  try clear hcz14_1
  try clear hcz14_2
  try clear hcz14_3
  try clear hcz14_4
  try clear hcz14_5
  try clear hcz14_6
  try clear hcz14_7
  try clear hcz19_0
  try clear hcz19_1
  try clear hcz19_2
  try clear hcz5_0
  try clear hcz5_1
  try clear hcz5_2
  try clear hcz5_3
  try clear hcz5_4
  try clear hcz5_5
  try clear hcz5_6
  try clear hcz5_7
  try clear hcz8_0
  try clear hcz8_1
  try clear hcz8_2
  try clear hcz9_0
  try clear hcz9_1
  try clear hcz9_2
  try clear hcz9_3
  try clear hcz9_4
  try clear hcz9_5
  try clear hcz9_6
  try clear hcz9_7
  try clear hfz13_0
  try clear hfz13_1
  try clear hfz13_2
  try clear hfz14_0
  try clear hfz14_1
  try clear hfz14_2
  try clear hfz14_3
  try clear hfz14_4
  try clear hfz14_5
  try clear hfz14_6
  try clear hfz14_7
  try clear hfz19_0
  try clear hfz19_1
  try clear hfz19_2
  try clear hfz5_0
  try clear hfz5_1
  try clear hfz5_2
  try clear hfz5_3
  try clear hfz5_4
  try clear hfz5_5
  try clear hfz5_6
  try clear hfz5_7
  try clear hfz8_0
  try clear hfz8_1
  try clear hfz8_2
  try clear hfz9_0
  try clear hfz9_1
  try clear hfz9_2
  try clear hfz9_3
  try clear hfz9_4
  try clear hfz9_5
  try clear hfz9_6
  try clear hfz9_7
  obtain ⟨kq, x35_2, rfl, HA, HJ2, BK223, BK224, BK225, HB⟩ := hcut
  cases kq with
  | zero => exact absurd HA.out (by simp [selvedgelaw15_CutFeeds.j0])
  | succ kj2 =>
   have H := HA.out
   clear HA
   simp only [selvedgelaw15_CutFeeds.j0] at H
   by_cases c20 : x35_2 = true
   ·
    subst c20
    have H1 : (some t226) = some r := by rw [if_pos rfl] at H; exact H
    clear H
    have H := H1
    clear H1
    obtain rfl := Option.some.inj H
    go_wp2
    go_ret
    exact ⟨by first | rfl | (simp [errW_none, errW_some] <;> rfl) | (simp [*, errW_none, errW_some] <;> rfl), by repeat (first | (with_reducible first | exact HB.out | apply below_alloc | apply pw_below_drewN | apply below_drew1 | refine below_set ?_ GE223.out | refine below_set ?_ GE224.out | refine below_set ?_ GE225.out) | exact HB.out)⟩
   ·
    replace c20 := Bool.eq_false_iff.mpr c20
    subst c20
    have H1 : ((cut_Feed.f kj2 a0_0 a0_1 l0_2 l0_3).bind fun bt227 => ((selvedgeref15_Feed.f kj2 a0_0 a0_1 l0_2 l0_3).bind fun bt236 => ((cut_Flush.f a0_0 a0_1 l0_2).bind fun bt245 => ((selvedgeref15_Flush.f a0_0 a0_1 l0_2).bind fun bt254 => ((selvedgeref15_Same.f kj2 bt227.1 bt227.2.1 bt227.2.2.1 bt236.1 bt236.2.1 bt236.2.2.1).bind fun t263 => (if t263 = true then ((selvedgeref15_Same.f kj2 bt245.1 bt245.2.1 bt245.2.2.1 bt254.1 bt254.2.1 bt254.2.2.1).bind fun t264 => (selvedgelaw15_CutFeeds.j1 kj2 a0_7 t226 bt227.2.2.2 bt236.2.2.2 bt245.2.2.2 bt254.2.2.2 t264 a0_0 a0_1 l0_2 a0_4 a0_5 l0_6)) else (selvedgelaw15_CutFeeds.j1 kj2 a0_7 t226 bt227.2.2.2 bt236.2.2.2 bt245.2.2.2 bt254.2.2.2 false a0_0 a0_1 l0_2 a0_4 a0_5 l0_6))))))) = some r := by rw [if_neg (show ¬ (false = true) by decide)] at H; exact H
    clear H
    have H := H1
    clear H1
    replace H := Option.bind_eq_some_iff.mp H
    obtain ⟨⟨t227, t228, t229, t232⟩, A210, H⟩ := H
    replace H : ((selvedgeref15_Feed.f kj2 a0_0 a0_1 l0_2 l0_3).bind fun bt236 => ((cut_Flush.f a0_0 a0_1 l0_2).bind fun bt245 => ((selvedgeref15_Flush.f a0_0 a0_1 l0_2).bind fun bt254 => ((selvedgeref15_Same.f kj2 t227 t228 t229 bt236.1 bt236.2.1 bt236.2.2.1).bind fun t263 => (if t263 = true then ((selvedgeref15_Same.f kj2 bt245.1 bt245.2.1 bt245.2.2.1 bt254.1 bt254.2.1 bt254.2.2.1).bind fun t264 => (selvedgelaw15_CutFeeds.j1 kj2 a0_7 t226 t232 bt236.2.2.2 bt245.2.2.2 bt254.2.2.2 t264 a0_0 a0_1 l0_2 a0_4 a0_5 l0_6)) else (selvedgelaw15_CutFeeds.j1 kj2 a0_7 t226 t232 bt236.2.2.2 bt245.2.2.2 bt254.2.2.2 false a0_0 a0_1 l0_2 a0_4 a0_5 l0_6)))))) = some r := H
    have A21 := Aside0.mk A210
    clear A210
    replace H := Option.bind_eq_some_iff.mp H
    obtain ⟨⟨t236, t237, t238, t241⟩, A220, H⟩ := H
    replace H : ((cut_Flush.f a0_0 a0_1 l0_2).bind fun bt245 => ((selvedgeref15_Flush.f a0_0 a0_1 l0_2).bind fun bt254 => ((selvedgeref15_Same.f kj2 t227 t228 t229 t236 t237 t238).bind fun t263 => (if t263 = true then ((selvedgeref15_Same.f kj2 bt245.1 bt245.2.1 bt245.2.2.1 bt254.1 bt254.2.1 bt254.2.2.1).bind fun t264 => (selvedgelaw15_CutFeeds.j1 kj2 a0_7 t226 t232 t241 bt245.2.2.2 bt254.2.2.2 t264 a0_0 a0_1 l0_2 a0_4 a0_5 l0_6)) else (selvedgelaw15_CutFeeds.j1 kj2 a0_7 t226 t232 t241 bt245.2.2.2 bt254.2.2.2 false a0_0 a0_1 l0_2 a0_4 a0_5 l0_6))))) = some r := H
    have A22 := Aside0.mk A220
    clear A220
    replace H := Option.bind_eq_some_iff.mp H
    obtain ⟨⟨t245, t246, t247, t250⟩, A230, H⟩ := H
    replace H : ((selvedgeref15_Flush.f a0_0 a0_1 l0_2).bind fun bt254 => ((selvedgeref15_Same.f kj2 t227 t228 t229 t236 t237 t238).bind fun t263 => (if t263 = true then ((selvedgeref15_Same.f kj2 t245 t246 t247 bt254.1 bt254.2.1 bt254.2.2.1).bind fun t264 => (selvedgelaw15_CutFeeds.j1 kj2 a0_7 t226 t232 t241 t250 bt254.2.2.2 t264 a0_0 a0_1 l0_2 a0_4 a0_5 l0_6)) else (selvedgelaw15_CutFeeds.j1 kj2 a0_7 t226 t232 t241 t250 bt254.2.2.2 false a0_0 a0_1 l0_2 a0_4 a0_5 l0_6)))) = some r := H
    have A23 := Aside0.mk A230
    clear A230
    replace H := Option.bind_eq_some_iff.mp H
    obtain ⟨⟨t254, t255, t256, t259⟩, A240, H⟩ := H
    replace H : ((selvedgeref15_Same.f kj2 t227 t228 t229 t236 t237 t238).bind fun t263 => (if t263 = true then ((selvedgeref15_Same.f kj2 t245 t246 t247 t254 t255 t256).bind fun t264 => (selvedgelaw15_CutFeeds.j1 kj2 a0_7 t226 t232 t241 t250 t259 t264 a0_0 a0_1 l0_2 a0_4 a0_5 l0_6)) else (selvedgelaw15_CutFeeds.j1 kj2 a0_7 t226 t232 t241 t250 t259 false a0_0 a0_1 l0_2 a0_4 a0_5 l0_6))) = some r := H
    have A24 := Aside0.mk A240
    clear A240
    have HC25 := Aside0.mk H
    clear H
    have hnb26 := NB224_223.out
    have hnc26 := NB223_224.out
    have hnb27 := NB224_225.out
    have hnc27 := NB225_224.out
    have hcz28_0 : wc.cell? ⟨gb224, 0, none⟩ = some (.int .i64 a0_0) := (blk_cell BK224.out 0).trans rfl
    have hcz28_1 : wc.cell? ⟨gb224, 1, none⟩ = some (.string a0_1) := (blk_cell BK224.out 1).trans rfl
    have hcz28_2 : wc.cell? ⟨gb224, 2, none⟩ = some (.slice A0_2 l0_2.length c0_2) := (blk_cell BK224.out 2).trans rfl
    have hfz28_0 := blk_frozen BK224.out 0
    have hfz28_1 := blk_frozen BK224.out 1
    have hfz28_2 := blk_frozen BK224.out 2
    go_upto_region 12 with (first | ((with_reducible refine gate_callee (f := 38) rfl ?_); refine goesL_ (some 40) rfl rfl Try.func38 (by kernel_rfl) rfl #[.agg #[.int .i64 a0_0, .string a0_1, .slice A0_2 l0_2.length c0_2], .slice A0_3 l0_3.length c0_3] rfl (by (try simp only [List.map_toArray, List.map_cons, List.map_nil]); first | done | rfl | (simp only [List.length_drop, List.length_take]; rfl)) ?_; (with_reducible refine (cut_Feed.calls kj2 a0_0 a0_1 (fun k_ => k_ < w.heap.size) _ _ l0_2 _ _ l0_3 t227 t228 t229 t232 _ ?side1 ?side2 ?side3 A21.out).mono ?_); (case side1 => exact Kd.V_mk HC0_2.out (Kd.F_below (Kd.C_F Kd.heap_string HR0_2.out) (by repeat (first | (with_reducible first | exact HB.out | apply below_alloc | apply pw_below_drewN | apply below_drew1 | refine below_set ?_ GE223.out | refine below_set ?_ GE224.out | refine below_set ?_ GE225.out) | exact HB.out)))); (case side2 => repeat (first | exact (Kd.C_below HR0_3.out HB.out) | (with_reducible refine Kd.C_alloc ?_ _) | (with_reducible refine Kd.C_drewN ?_ _) | (with_reducible refine Kd.C_drew ?_))); (case side3 => exact HC0_3.out); rintro e w29 ⟨v230, v233, rfl, ho0, ho1, hb⟩; refine ⟨_, rfl, ?_⟩; have n0_ := Aside0.mk (Kd.V_lower (Kd.V_mono (ok' := fun k_ => some k_ ≠ (v233 : Value).ownBlock ∧ k_ ≠ gb223 ∧ k_ ≠ gb224 ∧ k_ ≠ gb225) ho0 (fun k_ hk_ => ⟨hk_.2, Or.elim hk_.1 (fun hs_ => fun e_ => Nat.not_le.2 hs_ (by rw [e_]; exact GW223.out)) (fun hn_ => (Kd.freshB (g := gb223) (o := .cells #[.int .i64 a0_0, .string a0_1, .slice A0_2 l0_2.length c0_2, .slice A0_3 l0_3.length c0_3, .int .i64 a0_4, .string a0_5, .slice A0_6 l0_6.length c0_6, .string a0_7] 42 (0, 0)) (pB BK223.out) k_ hn_)), Or.elim hk_.1 (fun hs_ => fun e_ => Nat.not_le.2 hs_ (by rw [e_]; exact GW224.out)) (fun hn_ => (Kd.freshB (g := gb224) (o := .cells #[.int .i64 a0_0, .string a0_1, .slice A0_2 l0_2.length c0_2] 39 (0, 0)) (pB BK224.out) k_ hn_)), Or.elim hk_.1 (fun hs_ => fun e_ => Nat.not_le.2 hs_ (by rw [e_]; exact GW225.out)) (fun hn_ => (Kd.freshB (g := gb225) (o := .cells #[.int .i64 a0_4, .string a0_5, .slice A0_6 l0_6.length c0_6] 40 (0, 0)) (pB BK225.out) k_ hn_))⟩)) (below_size (by repeat (first | (with_reducible first | exact HB.out | apply below_alloc | apply pw_below_drewN | apply below_drew1 | refine below_set ?_ GE223.out | refine below_set ?_ GE224.out | refine below_set ?_ GE225.out) | exact HB.out)))); have n1_ := Aside0.mk (Kd.N_lower (Kd.N_mono (ok' := fun k_ => k_ ≠ gb223 ∧ k_ ≠ gb224 ∧ k_ ≠ gb225) ho1 (fun k_ hk_ => ⟨Or.elim hk_ (fun hs_ => fun e_ => Nat.not_le.2 hs_ (by rw [e_]; exact GW223.out)) (fun hn_ => (Kd.freshB (g := gb223) (o := .cells #[.int .i64 a0_0, .string a0_1, .slice A0_2 l0_2.length c0_2, .slice A0_3 l0_3.length c0_3, .int .i64 a0_4, .string a0_5, .slice A0_6 l0_6.length c0_6, .string a0_7] 42 (0, 0)) (pB BK223.out) k_ hn_)), Or.elim hk_ (fun hs_ => fun e_ => Nat.not_le.2 hs_ (by rw [e_]; exact GW224.out)) (fun hn_ => (Kd.freshB (g := gb224) (o := .cells #[.int .i64 a0_0, .string a0_1, .slice A0_2 l0_2.length c0_2] 39 (0, 0)) (pB BK224.out) k_ hn_)), Or.elim hk_ (fun hs_ => fun e_ => Nat.not_le.2 hs_ (by rw [e_]; exact GW225.out)) (fun hn_ => (Kd.freshB (g := gb225) (o := .cells #[.int .i64 a0_4, .string a0_5, .slice A0_6 l0_6.length c0_6] 40 (0, 0)) (pB BK225.out) k_ hn_))⟩)) (below_size (by repeat (first | (with_reducible first | exact HB.out | apply below_alloc | apply pw_below_drewN | apply below_drew1 | refine below_set ?_ GE223.out | refine below_set ?_ GE224.out | refine below_set ?_ GE225.out) | exact HB.out)))); have n2_ := Aside0.mk (blk_below (g := gb223) (o := .cells #[.int .i64 a0_0, .string a0_1, .slice A0_2 l0_2.length c0_2, .slice A0_3 l0_3.length c0_3, .int .i64 a0_4, .string a0_5, .slice A0_6 l0_6.length c0_6, .string a0_7] 42 (0, 0)) (pB BK223.out) hb); have n3_ := Aside0.mk (blk_below (g := gb224) (o := .cells #[.int .i64 a0_0, .string a0_1, .slice A0_2 l0_2.length c0_2] 39 (0, 0)) (pB BK224.out) hb); have n4_ := Aside0.mk (blk_below (g := gb225) (o := .cells #[.int .i64 a0_4, .string a0_5, .slice A0_6 l0_6.length c0_6] 40 (0, 0)) (pB BK225.out) hb); have n5_ := Aside0.mk (below_step (by repeat (first | (with_reducible first | exact HB.out | apply below_alloc | apply pw_below_drewN | apply below_drew1 | refine below_set ?_ GE223.out | refine below_set ?_ GE224.out | refine below_set ?_ GE225.out) | exact HB.out)) hb); clear BK223; clear BK224; clear BK225; clear HB; have HO231 := n0_; have HO234 := n1_; have BK223 := n2_; have BK224 := n3_; have BK225 := n4_; have HB := n5_; clear n0_ n1_ n2_ n3_ n4_ n5_; (try clear hb); (try clear hb2); (try clear hk); (try clear hi); (try clear ho0); (try clear ho1)) | ((with_reducible refine gate_dst (N := 8) rfl ?_); (try (refine gate_guard (by rfl) ?_; dsimp only)); refine box_event ?hg (N := 8) ?hd (cs := #[.int .i64 0, .string (⟨#[]⟩ : ByteArray), .slice none 0 0]) (t := 39) ?hr ?_; (case hd => rfl); (case hg => rfl); (case hr => first | (go_simp; done) | (go_simp; rfl)); intro gb235 hg w30 hbox hb; have n0_ := Aside0.mk (Kd.V_below (Kd.V_elderB (Kd.pV HO231.out) gb235 (Nat.le_of_eq hg.symm)) hb); have n1_ := Aside0.mk (Kd.N_below (Kd.N_elderB (Kd.pN HO234.out) gb235 (Nat.le_of_eq hg.symm)) hb); have n2_ := Aside0.mk (blk_below (g := gb223) (o := .cells #[.int .i64 a0_0, .string a0_1, .slice A0_2 l0_2.length c0_2, .slice A0_3 l0_3.length c0_3, .int .i64 a0_4, .string a0_5, .slice A0_6 l0_6.length c0_6, .string a0_7] 42 (0, 0)) (pB BK223.out) hb); have n3_ := Aside0.mk (blk_below (g := gb224) (o := .cells #[.int .i64 a0_0, .string a0_1, .slice A0_2 l0_2.length c0_2] 39 (0, 0)) (pB BK224.out) hb); have n4_ := Aside0.mk (blk_below (g := gb225) (o := .cells #[.int .i64 a0_4, .string a0_5, .slice A0_6 l0_6.length c0_6] 40 (0, 0)) (pB BK225.out) hb); have n5_ := Aside0.mk (below_step (by repeat (first | (with_reducible first | exact HB.out | apply below_alloc | apply pw_below_drewN | apply below_drew1 | refine below_set ?_ GE223.out | refine below_set ?_ GE224.out | refine below_set ?_ GE225.out) | exact HB.out)) hb); have n6_ := Aside0.mk (hbox); have n7_ := Aside0.mk ((by rw [hg]; exact (below_size (by repeat (first | (with_reducible first | exact HB.out | apply below_alloc | apply pw_below_drewN | apply below_drew1 | refine below_set ?_ GE223.out | refine below_set ?_ GE224.out | refine below_set ?_ GE225.out) | exact HB.out))) : w.heap.size ≤ gb235)); have n8_ := Aside0.mk ((by rw [hg]; exact (below_size (by repeat (first | (with_reducible first | exact HB.out | apply below_alloc | apply pw_below_drewN | apply below_drew1 | refine below_set ?_ GE223.out | refine below_set ?_ GE224.out | refine below_set ?_ GE225.out) | exact HB.out))) : w.heap.size ≤ gb235)); have n9_ := Aside0.mk ((by rw [hg]; exact Nat.ne_of_lt (blk_lt (g := gb223) (o := .cells #[.int .i64 a0_0, .string a0_1, .slice A0_2 l0_2.length c0_2, .slice A0_3 l0_3.length c0_3, .int .i64 a0_4, .string a0_5, .slice A0_6 l0_6.length c0_6, .string a0_7] 42 (0, 0)) (pB BK223.out)) : gb223 ≠ gb235)); have n10_ := Aside0.mk ((by rw [hg]; exact Nat.ne_of_gt (blk_lt (g := gb223) (o := .cells #[.int .i64 a0_0, .string a0_1, .slice A0_2 l0_2.length c0_2, .slice A0_3 l0_3.length c0_3, .int .i64 a0_4, .string a0_5, .slice A0_6 l0_6.length c0_6, .string a0_7] 42 (0, 0)) (pB BK223.out)) : gb235 ≠ gb223)); have n11_ := Aside0.mk ((by rw [hg]; exact Nat.ne_of_lt (blk_lt (g := gb224) (o := .cells #[.int .i64 a0_0, .string a0_1, .slice A0_2 l0_2.length c0_2] 39 (0, 0)) (pB BK224.out)) : gb224 ≠ gb235)); have n12_ := Aside0.mk ((by rw [hg]; exact Nat.ne_of_gt (blk_lt (g := gb224) (o := .cells #[.int .i64 a0_0, .string a0_1, .slice A0_2 l0_2.length c0_2] 39 (0, 0)) (pB BK224.out)) : gb235 ≠ gb224)); have n13_ := Aside0.mk ((by rw [hg]; exact Nat.ne_of_lt (blk_lt (g := gb225) (o := .cells #[.int .i64 a0_4, .string a0_5, .slice A0_6 l0_6.length c0_6] 40 (0, 0)) (pB BK225.out)) : gb225 ≠ gb235)); have n14_ := Aside0.mk ((by rw [hg]; exact Nat.ne_of_gt (blk_lt (g := gb225) (o := .cells #[.int .i64 a0_4, .string a0_5, .slice A0_6 l0_6.length c0_6] 40 (0, 0)) (pB BK225.out)) : gb235 ≠ gb225)); clear HO231; clear HO234; clear BK223; clear BK224; clear BK225; clear HB; have HO231 := n0_; have HO234 := n1_; have BK223 := n2_; have BK224 := n3_; have BK225 := n4_; have HB := n5_; have BK235 := n6_; have GW235 := n7_; have GE235 := n8_; have NB223_235 := n9_; have NB235_223 := n10_; have NB224_235 := n11_; have NB235_224 := n12_; have NB225_235 := n13_; have NB235_225 := n14_; clear n0_ n1_ n2_ n3_ n4_ n5_ n6_ n7_ n8_ n9_ n10_ n11_ n12_ n13_ n14_; clear hb hbox hg; have hnb31 := NB235_223.out; have hnc31 := NB223_235.out; have hnb32 := NB235_224.out; have hnc32 := NB224_235.out; have hnb33 := NB235_225.out; have hnc33 := NB225_235.out; have hcz34_0 : w30.cell? ⟨gb235, 0, none⟩ = some (.int .i64 0) := (blk_cell BK235.out 0).trans rfl; have hcz34_1 : w30.cell? ⟨gb235, 1, none⟩ = some (.string (⟨#[]⟩ : ByteArray)) := (blk_cell BK235.out 1).trans rfl; have hcz34_2 : w30.cell? ⟨gb235, 2, none⟩ = some (.slice none 0 0) := (blk_cell BK235.out 2).trans rfl; have hfz34_0 := blk_frozen BK235.out 0; have hfz34_1 := blk_frozen BK235.out 1; have hfz34_2 := blk_frozen BK235.out 2; obtain ⟨Ao35, co35, eo35⟩ := Kd.V_slice HO231.out; subst eo35) | ((with_reducible refine gate_store (t := 39) (p := 8) rfl ?_); refine store_event (t := 39) (p := 8) (v := ?vo_w36) (w1 := (((w30.setCell ⟨gb235, 0, none⟩ (.int .i64 t227)).setCell ⟨gb235, 1, none⟩ (.string t228)).setCell ⟨gb235, 2, none⟩ (.slice Ao35 t229.length co35))) ?hg ?ho ?hn ?hr ?_; (case ho => rfl); (case hg => rfl); (case hn => rfl); (case hr => first | (go_simp; done) | (go_simp; rfl)); intro w36 hw; have n0_ : Aside0 (Kd.V Kd.string 9 w36 w.heap.size (fun k_ => some k_ ≠ (v233 : Value).ownBlock ∧ k_ ≠ gb223 ∧ k_ ≠ gb224 ∧ k_ ≠ gb225 ∧ k_ ≠ gb235) (.slice Ao35 t229.length co35) t229) := ⟨(by rw [hw]; exact (Kd.pV (Kd.V_mono (Kd.V_far (p := ⟨gb235, 2, none⟩) (Kd.V_far (p := ⟨gb235, 1, none⟩) (Kd.V_far (p := ⟨gb235, 0, none⟩) (Kd.V_mono HO231.out (fun k_ hk => (⟨hk, hk.2⟩ : _ ∧ k_ ≠ gb235))) (fun _ hk => hk.2) (.int .i64 t227)) (fun _ hk => hk.2) (.string t228)) (fun _ hk => hk.2) (.slice Ao35 t229.length co35)) (fun _ hk => ⟨hk.1.1.1, ⟨hk.1.1.2.1, ⟨hk.1.1.2.2.1, ⟨hk.1.1.2.2.2, hk.1.2⟩⟩⟩⟩))))⟩; have n1_ : Aside0 (Kd.N k40 40 w36 w.heap.size (fun k_ => k_ ≠ gb223 ∧ k_ ≠ gb224 ∧ k_ ≠ gb225 ∧ k_ ≠ gb235) v233 t232) := ⟨(by rw [hw]; exact (Kd.pN (Kd.N_mono (Kd.N_far (p := ⟨gb235, 2, none⟩) (Kd.N_far (p := ⟨gb235, 1, none⟩) (Kd.N_far (p := ⟨gb235, 0, none⟩) (Kd.N_mono HO234.out (fun k_ hk => (⟨hk, hk.2⟩ : _ ∧ k_ ≠ gb235))) (fun _ hk => hk.2) (.int .i64 t227)) (fun _ hk => hk.2) (.string t228)) (fun _ hk => hk.2) (.slice Ao35 t229.length co35)) (fun _ hk => ⟨hk.1.1.1, ⟨hk.1.1.2.1, ⟨hk.1.1.2.2, hk.1.2⟩⟩⟩))))⟩; have n2_ : Aside0 (w36.heap[gb223]? = some (.cells #[.int .i64 a0_0, .string a0_1, .slice A0_2 l0_2.length c0_2, .slice A0_3 l0_3.length c0_3, .int .i64 a0_4, .string a0_5, .slice A0_6 l0_6.length c0_6, .string a0_7] 42 (0, 0))) := ⟨(by rw [hw]; exact (by (with_reducible repeat (first | refine blk_drewN ?_ _ | refine blk_drew ?_ | refine blk_alloc ?_ _)); refine blk_far ?_ NB223_235.out _; (with_reducible repeat (first | refine blk_drewN ?_ _ | refine blk_drew ?_ | refine blk_alloc ?_ _)); refine blk_far ?_ NB223_235.out _; (with_reducible repeat (first | refine blk_drewN ?_ _ | refine blk_drew ?_ | refine blk_alloc ?_ _)); refine blk_far ?_ NB223_235.out _; (with_reducible repeat (first | refine blk_drewN ?_ _ | refine blk_drew ?_ | refine blk_alloc ?_ _)); exact BK223.out))⟩; have n3_ : Aside0 (w36.heap[gb224]? = some (.cells #[.int .i64 a0_0, .string a0_1, .slice A0_2 l0_2.length c0_2] 39 (0, 0))) := ⟨(by rw [hw]; exact (by (with_reducible repeat (first | refine blk_drewN ?_ _ | refine blk_drew ?_ | refine blk_alloc ?_ _)); refine blk_far ?_ NB224_235.out _; (with_reducible repeat (first | refine blk_drewN ?_ _ | refine blk_drew ?_ | refine blk_alloc ?_ _)); refine blk_far ?_ NB224_235.out _; (with_reducible repeat (first | refine blk_drewN ?_ _ | refine blk_drew ?_ | refine blk_alloc ?_ _)); refine blk_far ?_ NB224_235.out _; (with_reducible repeat (first | refine blk_drewN ?_ _ | refine blk_drew ?_ | refine blk_alloc ?_ _)); exact BK224.out))⟩; have n4_ : Aside0 (w36.heap[gb225]? = some (.cells #[.int .i64 a0_4, .string a0_5, .slice A0_6 l0_6.length c0_6] 40 (0, 0))) := ⟨(by rw [hw]; exact (by (with_reducible repeat (first | refine blk_drewN ?_ _ | refine blk_drew ?_ | refine blk_alloc ?_ _)); refine blk_far ?_ NB225_235.out _; (with_reducible repeat (first | refine blk_drewN ?_ _ | refine blk_drew ?_ | refine blk_alloc ?_ _)); refine blk_far ?_ NB225_235.out _; (with_reducible repeat (first | refine blk_drewN ?_ _ | refine blk_drew ?_ | refine blk_alloc ?_ _)); refine blk_far ?_ NB225_235.out _; (with_reducible repeat (first | refine blk_drewN ?_ _ | refine blk_drew ?_ | refine blk_alloc ?_ _)); exact BK225.out))⟩; have n5_ : Aside0 (w36.heap[gb235]? = some (.cells #[.int .i64 t227, .string t228, .slice Ao35 t229.length co35] 39 (0, 0))) := ⟨(by rw [hw]; exact (by (with_reducible repeat (first | refine blk_drewN ?_ _ | refine blk_drew ?_ | refine blk_alloc ?_ _)); refine blk_put (cs := #[.int .i64 t227, .string t228, .slice none 0 0]) ?_ 2 _ rfl; (with_reducible repeat (first | refine blk_drewN ?_ _ | refine blk_drew ?_ | refine blk_alloc ?_ _)); refine blk_put (cs := #[.int .i64 t227, .string (⟨#[]⟩ : ByteArray), .slice none 0 0]) ?_ 1 _ rfl; (with_reducible repeat (first | refine blk_drewN ?_ _ | refine blk_drew ?_ | refine blk_alloc ?_ _)); refine blk_put (cs := #[.int .i64 0, .string (⟨#[]⟩ : ByteArray), .slice none 0 0]) ?_ 0 _ rfl; (with_reducible repeat (first | refine blk_drewN ?_ _ | refine blk_drew ?_ | refine blk_alloc ?_ _)); exact BK235.out))⟩; have n6_ : Aside0 (Below w.heap.size w w36) := ⟨(by rw [hw]; exact (by repeat (first | (with_reducible first | exact HB.out | apply below_alloc | apply pw_below_drewN | apply below_drew1 | refine below_set ?_ GE223.out | refine below_set ?_ GE224.out | refine below_set ?_ GE225.out | refine below_set ?_ GE235.out) | exact HB.out)))⟩; clear hw; clear HO231; clear HO234; clear BK223; clear BK224; clear BK225; clear BK235; clear HB; have HO231 := n0_; have HO234 := n1_; have BK223 := n2_; have BK224 := n3_; have BK225 := n4_; have BK235 := n5_; have HB := n6_; clear n0_ n1_ n2_ n3_ n4_ n5_ n6_; have hcz37_0 : w36.cell? ⟨gb224, 0, none⟩ = some (.int .i64 a0_0) := (blk_cell BK224.out 0).trans rfl; have hcz37_1 : w36.cell? ⟨gb224, 1, none⟩ = some (.string a0_1) := (blk_cell BK224.out 1).trans rfl; have hcz37_2 : w36.cell? ⟨gb224, 2, none⟩ = some (.slice A0_2 l0_2.length c0_2) := (blk_cell BK224.out 2).trans rfl; have hfz37_0 := blk_frozen BK224.out 0; have hfz37_1 := blk_frozen BK224.out 1; have hfz37_2 := blk_frozen BK224.out 2) | ((with_reducible refine gate_callee (f := 39) rfl ?_); refine goesL_ (some 46) rfl rfl Try.func39 (by kernel_rfl) rfl #[.agg #[.int .i64 a0_0, .string a0_1, .slice A0_2 l0_2.length c0_2], .slice A0_3 l0_3.length c0_3] rfl (by (try simp only [List.map_toArray, List.map_cons, List.map_nil]); first | done | rfl | (simp only [List.length_drop, List.length_take]; rfl)) ?_; (with_reducible refine (selvedgeref15_Feed.calls kj2 a0_0 a0_1 (fun k_ => k_ < w.heap.size) _ _ l0_2 _ _ l0_3 t236 t237 t238 t241 _ ?side1 ?side2 ?side3 A22.out).mono ?_); (case side1 => exact Kd.V_mk HC0_2.out (Kd.F_below (Kd.C_F Kd.heap_string HR0_2.out) (by repeat (first | (with_reducible first | exact HB.out | apply below_alloc | apply pw_below_drewN | apply below_drew1 | refine below_set ?_ GE223.out | refine below_set ?_ GE224.out | refine below_set ?_ GE225.out | refine below_set ?_ GE235.out) | exact HB.out)))); (case side2 => repeat (first | exact (Kd.C_below HR0_3.out HB.out) | (with_reducible refine Kd.C_alloc ?_ _) | (with_reducible refine Kd.C_drewN ?_ _) | (with_reducible refine Kd.C_drew ?_))); (case side3 => exact HC0_3.out); rintro e w38 ⟨v239, v242, rfl, ho0, ho1, hb⟩; refine ⟨_, rfl, ?_⟩; have n0_ := Aside0.mk (Kd.V_elder' (Kd.pV HO231.out) (Kd.N_base ho1) hb); have n1_ := Aside0.mk (Kd.N_elder' (Kd.pN HO234.out) (Kd.N_base ho1) hb); have n2_ := Aside0.mk (Kd.V_lower (Kd.V_mono (ok' := fun k_ => some k_ ≠ (v242 : Value).ownBlock ∧ some k_ ≠ (v233 : Value).ownBlock ∧ k_ ≠ gb223 ∧ k_ ≠ gb224 ∧ k_ ≠ gb225 ∧ k_ ≠ gb235) ho0 (fun k_ hk_ => ⟨hk_.2, Or.elim hk_.1 (fun hs_ => fun e_ => Nat.not_le.2 hs_ (Kd.N_base HO234.out k_ e_.symm)) (fun hn_ => (Kd.fresh' (Kd.N_lt (Kd.pN HO234.out)) k_ hn_)), Or.elim hk_.1 (fun hs_ => fun e_ => Nat.not_le.2 hs_ (by rw [e_]; exact GW223.out)) (fun hn_ => (Kd.freshB (g := gb223) (o := .cells #[.int .i64 a0_0, .string a0_1, .slice A0_2 l0_2.length c0_2, .slice A0_3 l0_3.length c0_3, .int .i64 a0_4, .string a0_5, .slice A0_6 l0_6.length c0_6, .string a0_7] 42 (0, 0)) (pB BK223.out) k_ hn_)), Or.elim hk_.1 (fun hs_ => fun e_ => Nat.not_le.2 hs_ (by rw [e_]; exact GW224.out)) (fun hn_ => (Kd.freshB (g := gb224) (o := .cells #[.int .i64 a0_0, .string a0_1, .slice A0_2 l0_2.length c0_2] 39 (0, 0)) (pB BK224.out) k_ hn_)), Or.elim hk_.1 (fun hs_ => fun e_ => Nat.not_le.2 hs_ (by rw [e_]; exact GW225.out)) (fun hn_ => (Kd.freshB (g := gb225) (o := .cells #[.int .i64 a0_4, .string a0_5, .slice A0_6 l0_6.length c0_6] 40 (0, 0)) (pB BK225.out) k_ hn_)), Or.elim hk_.1 (fun hs_ => fun e_ => Nat.not_le.2 hs_ (by rw [e_]; exact GW235.out)) (fun hn_ => (Kd.freshB (g := gb235) (o := .cells #[.int .i64 t227, .string t228, .slice Ao35 t229.length co35] 39 (0, 0)) (pB BK235.out) k_ hn_))⟩)) (below_size (by repeat (first | (with_reducible first | exact HB.out | apply below_alloc | apply pw_below_drewN | apply below_drew1 | refine below_set ?_ GE223.out | refine below_set ?_ GE224.out | refine below_set ?_ GE225.out | refine below_set ?_ GE235.out) | exact HB.out)))); have n3_ := Aside0.mk (Kd.N_lower (Kd.N_mono (ok' := fun k_ => some k_ ≠ (v233 : Value).ownBlock ∧ k_ ≠ gb223 ∧ k_ ≠ gb224 ∧ k_ ≠ gb225 ∧ k_ ≠ gb235) ho1 (fun k_ hk_ => ⟨Or.elim hk_ (fun hs_ => fun e_ => Nat.not_le.2 hs_ (Kd.N_base HO234.out k_ e_.symm)) (fun hn_ => (Kd.fresh' (Kd.N_lt (Kd.pN HO234.out)) k_ hn_)), Or.elim hk_ (fun hs_ => fun e_ => Nat.not_le.2 hs_ (by rw [e_]; exact GW223.out)) (fun hn_ => (Kd.freshB (g := gb223) (o := .cells #[.int .i64 a0_0, .string a0_1, .slice A0_2 l0_2.length c0_2, .slice A0_3 l0_3.length c0_3, .int .i64 a0_4, .string a0_5, .slice A0_6 l0_6.length c0_6, .string a0_7] 42 (0, 0)) (pB BK223.out) k_ hn_)), Or.elim hk_ (fun hs_ => fun e_ => Nat.not_le.2 hs_ (by rw [e_]; exact GW224.out)) (fun hn_ => (Kd.freshB (g := gb224) (o := .cells #[.int .i64 a0_0, .string a0_1, .slice A0_2 l0_2.length c0_2] 39 (0, 0)) (pB BK224.out) k_ hn_)), Or.elim hk_ (fun hs_ => fun e_ => Nat.not_le.2 hs_ (by rw [e_]; exact GW225.out)) (fun hn_ => (Kd.freshB (g := gb225) (o := .cells #[.int .i64 a0_4, .string a0_5, .slice A0_6 l0_6.length c0_6] 40 (0, 0)) (pB BK225.out) k_ hn_)), Or.elim hk_ (fun hs_ => fun e_ => Nat.not_le.2 hs_ (by rw [e_]; exact GW235.out)) (fun hn_ => (Kd.freshB (g := gb235) (o := .cells #[.int .i64 t227, .string t228, .slice Ao35 t229.length co35] 39 (0, 0)) (pB BK235.out) k_ hn_))⟩)) (below_size (by repeat (first | (with_reducible first | exact HB.out | apply below_alloc | apply pw_below_drewN | apply below_drew1 | refine below_set ?_ GE223.out | refine below_set ?_ GE224.out | refine below_set ?_ GE225.out | refine below_set ?_ GE235.out) | exact HB.out)))); have n4_ := Aside0.mk (blk_below (g := gb223) (o := .cells #[.int .i64 a0_0, .string a0_1, .slice A0_2 l0_2.length c0_2, .slice A0_3 l0_3.length c0_3, .int .i64 a0_4, .string a0_5, .slice A0_6 l0_6.length c0_6, .string a0_7] 42 (0, 0)) (pB BK223.out) hb); have n5_ := Aside0.mk (blk_below (g := gb224) (o := .cells #[.int .i64 a0_0, .string a0_1, .slice A0_2 l0_2.length c0_2] 39 (0, 0)) (pB BK224.out) hb); have n6_ := Aside0.mk (blk_below (g := gb225) (o := .cells #[.int .i64 a0_4, .string a0_5, .slice A0_6 l0_6.length c0_6] 40 (0, 0)) (pB BK225.out) hb); have n7_ := Aside0.mk (blk_below (g := gb235) (o := .cells #[.int .i64 t227, .string t228, .slice Ao35 t229.length co35] 39 (0, 0)) (pB BK235.out) hb); have n8_ := Aside0.mk (below_step (by repeat (first | (with_reducible first | exact HB.out | apply below_alloc | apply pw_below_drewN | apply below_drew1 | refine below_set ?_ GE223.out | refine below_set ?_ GE224.out | refine below_set ?_ GE225.out | refine below_set ?_ GE235.out) | exact HB.out)) hb); clear HO231; clear HO234; clear BK223; clear BK224; clear BK225; clear BK235; clear HB; have HO231 := n0_; have HO234 := n1_; have HO240 := n2_; have HO243 := n3_; have BK223 := n4_; have BK224 := n5_; have BK225 := n6_; have BK235 := n7_; have HB := n8_; clear n0_ n1_ n2_ n3_ n4_ n5_ n6_ n7_ n8_; (try clear hb); (try clear hb2); (try clear hk); (try clear hi); (try clear ho0); (try clear ho1)) | ((with_reducible refine gate_dst (N := 10) rfl ?_); (try (refine gate_guard (by rfl) ?_; dsimp only)); refine box_event ?hg (N := 10) ?hd (cs := #[.int .i64 0, .string (⟨#[]⟩ : ByteArray), .slice none 0 0]) (t := 39) ?hr ?_; (case hd => rfl); (case hg => rfl); (case hr => first | (go_simp; done) | (go_simp; rfl)); intro gb244 hg w39 hbox hb; have n0_ := Aside0.mk (Kd.V_below (Kd.V_elderB (Kd.pV HO231.out) gb244 (Nat.le_of_eq hg.symm)) hb); have n1_ := Aside0.mk (Kd.N_below (Kd.N_elderB (Kd.pN HO234.out) gb244 (Nat.le_of_eq hg.symm)) hb); have n2_ := Aside0.mk (Kd.V_below (Kd.V_elderB (Kd.pV HO240.out) gb244 (Nat.le_of_eq hg.symm)) hb); have n3_ := Aside0.mk (Kd.N_below (Kd.N_elderB (Kd.pN HO243.out) gb244 (Nat.le_of_eq hg.symm)) hb); have n4_ := Aside0.mk (blk_below (g := gb223) (o := .cells #[.int .i64 a0_0, .string a0_1, .slice A0_2 l0_2.length c0_2, .slice A0_3 l0_3.length c0_3, .int .i64 a0_4, .string a0_5, .slice A0_6 l0_6.length c0_6, .string a0_7] 42 (0, 0)) (pB BK223.out) hb); have n5_ := Aside0.mk (blk_below (g := gb224) (o := .cells #[.int .i64 a0_0, .string a0_1, .slice A0_2 l0_2.length c0_2] 39 (0, 0)) (pB BK224.out) hb); have n6_ := Aside0.mk (blk_below (g := gb225) (o := .cells #[.int .i64 a0_4, .string a0_5, .slice A0_6 l0_6.length c0_6] 40 (0, 0)) (pB BK225.out) hb); have n7_ := Aside0.mk (blk_below (g := gb235) (o := .cells #[.int .i64 t227, .string t228, .slice Ao35 t229.length co35] 39 (0, 0)) (pB BK235.out) hb); have n8_ := Aside0.mk (below_step (by repeat (first | (with_reducible first | exact HB.out | apply below_alloc | apply pw_below_drewN | apply below_drew1 | refine below_set ?_ GE223.out | refine below_set ?_ GE224.out | refine below_set ?_ GE225.out | refine below_set ?_ GE235.out) | exact HB.out)) hb); have n9_ := Aside0.mk (hbox); have n10_ := Aside0.mk ((by rw [hg]; exact (below_size (by repeat (first | (with_reducible first | exact HB.out | apply below_alloc | apply pw_below_drewN | apply below_drew1 | refine below_set ?_ GE223.out | refine below_set ?_ GE224.out | refine below_set ?_ GE225.out | refine below_set ?_ GE235.out) | exact HB.out))) : w.heap.size ≤ gb244)); have n11_ := Aside0.mk ((by rw [hg]; exact (below_size (by repeat (first | (with_reducible first | exact HB.out | apply below_alloc | apply pw_below_drewN | apply below_drew1 | refine below_set ?_ GE223.out | refine below_set ?_ GE224.out | refine below_set ?_ GE225.out | refine below_set ?_ GE235.out) | exact HB.out))) : w.heap.size ≤ gb244)); have n12_ := Aside0.mk ((by rw [hg]; exact Nat.ne_of_lt (blk_lt (g := gb223) (o := .cells #[.int .i64 a0_0, .string a0_1, .slice A0_2 l0_2.length c0_2, .slice A0_3 l0_3.length c0_3, .int .i64 a0_4, .string a0_5, .slice A0_6 l0_6.length c0_6, .string a0_7] 42 (0, 0)) (pB BK223.out)) : gb223 ≠ gb244)); have n13_ := Aside0.mk ((by rw [hg]; exact Nat.ne_of_gt (blk_lt (g := gb223) (o := .cells #[.int .i64 a0_0, .string a0_1, .slice A0_2 l0_2.length c0_2, .slice A0_3 l0_3.length c0_3, .int .i64 a0_4, .string a0_5, .slice A0_6 l0_6.length c0_6, .string a0_7] 42 (0, 0)) (pB BK223.out)) : gb244 ≠ gb223)); have n14_ := Aside0.mk ((by rw [hg]; exact Nat.ne_of_lt (blk_lt (g := gb224) (o := .cells #[.int .i64 a0_0, .string a0_1, .slice A0_2 l0_2.length c0_2] 39 (0, 0)) (pB BK224.out)) : gb224 ≠ gb244)); have n15_ := Aside0.mk ((by rw [hg]; exact Nat.ne_of_gt (blk_lt (g := gb224) (o := .cells #[.int .i64 a0_0, .string a0_1, .slice A0_2 l0_2.length c0_2] 39 (0, 0)) (pB BK224.out)) : gb244 ≠ gb224)); have n16_ := Aside0.mk ((by rw [hg]; exact Nat.ne_of_lt (blk_lt (g := gb225) (o := .cells #[.int .i64 a0_4, .string a0_5, .slice A0_6 l0_6.length c0_6] 40 (0, 0)) (pB BK225.out)) : gb225 ≠ gb244)); have n17_ := Aside0.mk ((by rw [hg]; exact Nat.ne_of_gt (blk_lt (g := gb225) (o := .cells #[.int .i64 a0_4, .string a0_5, .slice A0_6 l0_6.length c0_6] 40 (0, 0)) (pB BK225.out)) : gb244 ≠ gb225)); have n18_ := Aside0.mk ((by rw [hg]; exact Nat.ne_of_lt (blk_lt (g := gb235) (o := .cells #[.int .i64 t227, .string t228, .slice Ao35 t229.length co35] 39 (0, 0)) (pB BK235.out)) : gb235 ≠ gb244)); have n19_ := Aside0.mk ((by rw [hg]; exact Nat.ne_of_gt (blk_lt (g := gb235) (o := .cells #[.int .i64 t227, .string t228, .slice Ao35 t229.length co35] 39 (0, 0)) (pB BK235.out)) : gb244 ≠ gb235)); clear HO231; clear HO234; clear HO240; clear HO243; clear BK223; clear BK224; clear BK225; clear BK235; clear HB; have HO231 := n0_; have HO234 := n1_; have HO240 := n2_; have HO243 := n3_; have BK223 := n4_; have BK224 := n5_; have BK225 := n6_; have BK235 := n7_; have HB := n8_; have BK244 := n9_; have GW244 := n10_; have GE244 := n11_; have NB223_244 := n12_; have NB244_223 := n13_; have NB224_244 := n14_; have NB244_224 := n15_; have NB225_244 := n16_; have NB244_225 := n17_; have NB235_244 := n18_; have NB244_235 := n19_; clear n0_ n1_ n2_ n3_ n4_ n5_ n6_ n7_ n8_ n9_ n10_ n11_ n12_ n13_ n14_ n15_ n16_ n17_ n18_ n19_; clear hb hbox hg; have hnb40 := NB244_223.out; have hnc40 := NB223_244.out; have hnb41 := NB244_224.out; have hnc41 := NB224_244.out; have hnb42 := NB244_225.out; have hnc42 := NB225_244.out; have hnb43 := NB244_235.out; have hnc43 := NB235_244.out; have hcz44_0 : w39.cell? ⟨gb244, 0, none⟩ = some (.int .i64 0) := (blk_cell BK244.out 0).trans rfl; have hcz44_1 : w39.cell? ⟨gb244, 1, none⟩ = some (.string (⟨#[]⟩ : ByteArray)) := (blk_cell BK244.out 1).trans rfl; have hcz44_2 : w39.cell? ⟨gb244, 2, none⟩ = some (.slice none 0 0) := (blk_cell BK244.out 2).trans rfl; have hfz44_0 := blk_frozen BK244.out 0; have hfz44_1 := blk_frozen BK244.out 1; have hfz44_2 := blk_frozen BK244.out 2; obtain ⟨Ao45, co45, eo45⟩ := Kd.V_slice HO240.out; subst eo45) | ((with_reducible refine gate_store (t := 39) (p := 10) rfl ?_); refine store_event (t := 39) (p := 10) (v := ?vo_w46) (w1 := (((w39.setCell ⟨gb244, 0, none⟩ (.int .i64 t236)).setCell ⟨gb244, 1, none⟩ (.string t237)).setCell ⟨gb244, 2, none⟩ (.slice Ao45 t238.length co45))) ?hg ?ho ?hn ?hr ?_; (case ho => rfl); (case hg => rfl); (case hn => rfl); (case hr => first | (go_simp; done) | (go_simp; rfl)); intro w46 hw; have n0_ : Aside0 (Kd.V Kd.string 9 w46 w.heap.size (fun k_ => some k_ ≠ (v233 : Value).ownBlock ∧ some k_ ≠ (v242 : Value).ownBlock ∧ k_ ≠ gb223 ∧ k_ ≠ gb224 ∧ k_ ≠ gb225 ∧ k_ ≠ gb235 ∧ k_ ≠ gb244) (.slice Ao35 t229.length co35) t229) := ⟨(by rw [hw]; exact (Kd.pV (Kd.V_mono (Kd.V_far (p := ⟨gb244, 2, none⟩) (Kd.V_far (p := ⟨gb244, 1, none⟩) (Kd.V_far (p := ⟨gb244, 0, none⟩) (Kd.V_mono HO231.out (fun k_ hk => (⟨hk, hk.2⟩ : _ ∧ k_ ≠ gb244))) (fun _ hk => hk.2) (.int .i64 t236)) (fun _ hk => hk.2) (.string t237)) (fun _ hk => hk.2) (.slice Ao45 t238.length co45)) (fun _ hk => ⟨hk.1.1.1.1, ⟨hk.1.1.2, ⟨hk.1.1.1.2.1, ⟨hk.1.1.1.2.2.1, ⟨hk.1.1.1.2.2.2.1, ⟨hk.1.1.1.2.2.2.2, hk.1.2⟩⟩⟩⟩⟩⟩))))⟩; have n1_ : Aside0 (Kd.N k40 40 w46 w.heap.size (fun k_ => some k_ ≠ (v242 : Value).ownBlock ∧ k_ ≠ gb223 ∧ k_ ≠ gb224 ∧ k_ ≠ gb225 ∧ k_ ≠ gb235 ∧ k_ ≠ gb244) v233 t232) := ⟨(by rw [hw]; exact (Kd.pN (Kd.N_mono (Kd.N_far (p := ⟨gb244, 2, none⟩) (Kd.N_far (p := ⟨gb244, 1, none⟩) (Kd.N_far (p := ⟨gb244, 0, none⟩) (Kd.N_mono HO234.out (fun k_ hk => (⟨hk, hk.2⟩ : _ ∧ k_ ≠ gb244))) (fun _ hk => hk.2) (.int .i64 t236)) (fun _ hk => hk.2) (.string t237)) (fun _ hk => hk.2) (.slice Ao45 t238.length co45)) (fun _ hk => ⟨hk.1.1.2, ⟨hk.1.1.1.1, ⟨hk.1.1.1.2.1, ⟨hk.1.1.1.2.2.1, ⟨hk.1.1.1.2.2.2, hk.1.2⟩⟩⟩⟩⟩))))⟩; have n2_ : Aside0 (Kd.V Kd.string 9 w46 w.heap.size (fun k_ => some k_ ≠ (v233 : Value).ownBlock ∧ some k_ ≠ (v242 : Value).ownBlock ∧ k_ ≠ gb223 ∧ k_ ≠ gb224 ∧ k_ ≠ gb225 ∧ k_ ≠ gb235 ∧ k_ ≠ gb244) (.slice Ao45 t238.length co45) t238) := ⟨(by rw [hw]; exact (Kd.pV (Kd.V_mono (Kd.V_far (p := ⟨gb244, 2, none⟩) (Kd.V_far (p := ⟨gb244, 1, none⟩) (Kd.V_far (p := ⟨gb244, 0, none⟩) (Kd.V_mono HO240.out (fun k_ hk => (⟨hk, hk.2⟩ : _ ∧ k_ ≠ gb244))) (fun _ hk => hk.2) (.int .i64 t236)) (fun _ hk => hk.2) (.string t237)) (fun _ hk => hk.2) (.slice Ao45 t238.length co45)) (fun _ hk => ⟨hk.1.1.2.1, ⟨hk.1.1.1, ⟨hk.1.1.2.2.1, ⟨hk.1.1.2.2.2.1, ⟨hk.1.1.2.2.2.2.1, ⟨hk.1.1.2.2.2.2.2, hk.1.2⟩⟩⟩⟩⟩⟩))))⟩; have n3_ : Aside0 (Kd.N k40 40 w46 w.heap.size (fun k_ => some k_ ≠ (v233 : Value).ownBlock ∧ k_ ≠ gb223 ∧ k_ ≠ gb224 ∧ k_ ≠ gb225 ∧ k_ ≠ gb235 ∧ k_ ≠ gb244) v242 t241) := ⟨(by rw [hw]; exact (Kd.pN (Kd.N_mono (Kd.N_far (p := ⟨gb244, 2, none⟩) (Kd.N_far (p := ⟨gb244, 1, none⟩) (Kd.N_far (p := ⟨gb244, 0, none⟩) (Kd.N_mono HO243.out (fun k_ hk => (⟨hk, hk.2⟩ : _ ∧ k_ ≠ gb244))) (fun _ hk => hk.2) (.int .i64 t236)) (fun _ hk => hk.2) (.string t237)) (fun _ hk => hk.2) (.slice Ao45 t238.length co45)) (fun _ hk => ⟨hk.1.1.1, ⟨hk.1.1.2.1, ⟨hk.1.1.2.2.1, ⟨hk.1.1.2.2.2.1, ⟨hk.1.1.2.2.2.2, hk.1.2⟩⟩⟩⟩⟩))))⟩; have n4_ : Aside0 (w46.heap[gb223]? = some (.cells #[.int .i64 a0_0, .string a0_1, .slice A0_2 l0_2.length c0_2, .slice A0_3 l0_3.length c0_3, .int .i64 a0_4, .string a0_5, .slice A0_6 l0_6.length c0_6, .string a0_7] 42 (0, 0))) := ⟨(by rw [hw]; exact (by (with_reducible repeat (first | refine blk_drewN ?_ _ | refine blk_drew ?_ | refine blk_alloc ?_ _)); refine blk_far ?_ NB223_244.out _; (with_reducible repeat (first | refine blk_drewN ?_ _ | refine blk_drew ?_ | refine blk_alloc ?_ _)); refine blk_far ?_ NB223_244.out _; (with_reducible repeat (first | refine blk_drewN ?_ _ | refine blk_drew ?_ | refine blk_alloc ?_ _)); refine blk_far ?_ NB223_244.out _; (with_reducible repeat (first | refine blk_drewN ?_ _ | refine blk_drew ?_ | refine blk_alloc ?_ _)); exact BK223.out))⟩; have n5_ : Aside0 (w46.heap[gb224]? = some (.cells #[.int .i64 a0_0, .string a0_1, .slice A0_2 l0_2.length c0_2] 39 (0, 0))) := ⟨(by rw [hw]; exact (by (with_reducible repeat (first | refine blk_drewN ?_ _ | refine blk_drew ?_ | refine blk_alloc ?_ _)); refine blk_far ?_ NB224_244.out _; (with_reducible repeat (first | refine blk_drewN ?_ _ | refine blk_drew ?_ | refine blk_alloc ?_ _)); refine blk_far ?_ NB224_244.out _; (with_reducible repeat (first | refine blk_drewN ?_ _ | refine blk_drew ?_ | refine blk_alloc ?_ _)); refine blk_far ?_ NB224_244.out _; (with_reducible repeat (first | refine blk_drewN ?_ _ | refine blk_drew ?_ | refine blk_alloc ?_ _)); exact BK224.out))⟩; have n6_ : Aside0 (w46.heap[gb225]? = some (.cells #[.int .i64 a0_4, .string a0_5, .slice A0_6 l0_6.length c0_6] 40 (0, 0))) := ⟨(by rw [hw]; exact (by (with_reducible repeat (first | refine blk_drewN ?_ _ | refine blk_drew ?_ | refine blk_alloc ?_ _)); refine blk_far ?_ NB225_244.out _; (with_reducible repeat (first | refine blk_drewN ?_ _ | refine blk_drew ?_ | refine blk_alloc ?_ _)); refine blk_far ?_ NB225_244.out _; (with_reducible repeat (first | refine blk_drewN ?_ _ | refine blk_drew ?_ | refine blk_alloc ?_ _)); refine blk_far ?_ NB225_244.out _; (with_reducible repeat (first | refine blk_drewN ?_ _ | refine blk_drew ?_ | refine blk_alloc ?_ _)); exact BK225.out))⟩; have n7_ : Aside0 (w46.heap[gb235]? = some (.cells #[.int .i64 t227, .string t228, .slice Ao35 t229.length co35] 39 (0, 0))) := ⟨(by rw [hw]; exact (by (with_reducible repeat (first | refine blk_drewN ?_ _ | refine blk_drew ?_ | refine blk_alloc ?_ _)); refine blk_far ?_ NB235_244.out _; (with_reducible repeat (first | refine blk_drewN ?_ _ | refine blk_drew ?_ | refine blk_alloc ?_ _)); refine blk_far ?_ NB235_244.out _; (with_reducible repeat (first | refine blk_drewN ?_ _ | refine blk_drew ?_ | refine blk_alloc ?_ _)); refine blk_far ?_ NB235_244.out _; (with_reducible repeat (first | refine blk_drewN ?_ _ | refine blk_drew ?_ | refine blk_alloc ?_ _)); exact BK235.out))⟩; have n8_ : Aside0 (w46.heap[gb244]? = some (.cells #[.int .i64 t236, .string t237, .slice Ao45 t238.length co45] 39 (0, 0))) := ⟨(by rw [hw]; exact (by (with_reducible repeat (first | refine blk_drewN ?_ _ | refine blk_drew ?_ | refine blk_alloc ?_ _)); refine blk_put (cs := #[.int .i64 t236, .string t237, .slice none 0 0]) ?_ 2 _ rfl; (with_reducible repeat (first | refine blk_drewN ?_ _ | refine blk_drew ?_ | refine blk_alloc ?_ _)); refine blk_put (cs := #[.int .i64 t236, .string (⟨#[]⟩ : ByteArray), .slice none 0 0]) ?_ 1 _ rfl; (with_reducible repeat (first | refine blk_drewN ?_ _ | refine blk_drew ?_ | refine blk_alloc ?_ _)); refine blk_put (cs := #[.int .i64 0, .string (⟨#[]⟩ : ByteArray), .slice none 0 0]) ?_ 0 _ rfl; (with_reducible repeat (first | refine blk_drewN ?_ _ | refine blk_drew ?_ | refine blk_alloc ?_ _)); exact BK244.out))⟩; have n9_ : Aside0 (Below w.heap.size w w46) := ⟨(by rw [hw]; exact (by repeat (first | (with_reducible first | exact HB.out | apply below_alloc | apply pw_below_drewN | apply below_drew1 | refine below_set ?_ GE223.out | refine below_set ?_ GE224.out | refine below_set ?_ GE225.out | refine below_set ?_ GE235.out | refine below_set ?_ GE244.out) | exact HB.out)))⟩; clear hw; clear HO231; clear HO234; clear HO240; clear HO243; clear BK223; clear BK224; clear BK225; clear BK235; clear BK244; clear HB; have HO231 := n0_; have HO234 := n1_; have HO240 := n2_; have HO243 := n3_; have BK223 := n4_; have BK224 := n5_; have BK225 := n6_; have BK235 := n7_; have BK244 := n8_; have HB := n9_; clear n0_ n1_ n2_ n3_ n4_ n5_ n6_ n7_ n8_ n9_; have hcz47_0 : w46.cell? ⟨gb224, 0, none⟩ = some (.int .i64 a0_0) := (blk_cell BK224.out 0).trans rfl; have hcz47_1 : w46.cell? ⟨gb224, 1, none⟩ = some (.string a0_1) := (blk_cell BK224.out 1).trans rfl; have hcz47_2 : w46.cell? ⟨gb224, 2, none⟩ = some (.slice A0_2 l0_2.length c0_2) := (blk_cell BK224.out 2).trans rfl; have hfz47_0 := blk_frozen BK224.out 0; have hfz47_1 := blk_frozen BK224.out 1; have hfz47_2 := blk_frozen BK224.out 2) | ((with_reducible refine gate_callee (f := 40) rfl ?_); refine goesL_ (some 51) rfl rfl Try.func40 (by kernel_rfl) rfl #[.agg #[.int .i64 a0_0, .string a0_1, .slice A0_2 l0_2.length c0_2]] rfl (by (try simp only [List.map_toArray, List.map_cons, List.map_nil]); first | done | rfl | (simp only [List.length_drop, List.length_take]; rfl)) ?_; (with_reducible refine (cut_Flush.calls a0_0 a0_1 (fun k_ => k_ < w.heap.size) _ _ l0_2 t245 t246 t247 t250 _ ?side1 A23.out).mono ?_); (case side1 => exact Kd.V_mk HC0_2.out (Kd.F_below (Kd.C_F Kd.heap_string HR0_2.out) (by repeat (first | (with_reducible first | exact HB.out | apply below_alloc | apply pw_below_drewN | apply below_drew1 | refine below_set ?_ GE223.out | refine below_set ?_ GE224.out | refine below_set ?_ GE225.out | refine below_set ?_ GE235.out | refine below_set ?_ GE244.out) | exact HB.out)))); rintro e w48 ⟨v248, v251, rfl, ho0, ho1, hb⟩; refine ⟨_, rfl, ?_⟩; have n0_ := Aside0.mk (Kd.V_below (Kd.pV HO231.out) hb); have n1_ := Aside0.mk (Kd.N_below (Kd.pN HO234.out) hb); have n2_ := Aside0.mk (Kd.V_below (Kd.pV HO240.out) hb); have n3_ := Aside0.mk (Kd.N_below (Kd.pN HO243.out) hb); have n4_ := Aside0.mk (Kd.V_lower (Kd.V_mono (ok' := fun k_ => some k_ ≠ (v233 : Value).ownBlock ∧ some k_ ≠ (v242 : Value).ownBlock ∧ k_ ≠ gb223 ∧ k_ ≠ gb224 ∧ k_ ≠ gb225 ∧ k_ ≠ gb235 ∧ k_ ≠ gb244) ho0 (fun k_ hk_ => ⟨Or.elim hk_ (fun hs_ => fun e_ => Nat.not_le.2 hs_ (Kd.N_base HO234.out k_ e_.symm)) (fun hn_ => (Kd.fresh' (Kd.N_lt (Kd.pN HO234.out)) k_ hn_)), Or.elim hk_ (fun hs_ => fun e_ => Nat.not_le.2 hs_ (Kd.N_base HO243.out k_ e_.symm)) (fun hn_ => (Kd.fresh' (Kd.N_lt (Kd.pN HO243.out)) k_ hn_)), Or.elim hk_ (fun hs_ => fun e_ => Nat.not_le.2 hs_ (by rw [e_]; exact GW223.out)) (fun hn_ => (Kd.freshB (g := gb223) (o := .cells #[.int .i64 a0_0, .string a0_1, .slice A0_2 l0_2.length c0_2, .slice A0_3 l0_3.length c0_3, .int .i64 a0_4, .string a0_5, .slice A0_6 l0_6.length c0_6, .string a0_7] 42 (0, 0)) (pB BK223.out) k_ hn_)), Or.elim hk_ (fun hs_ => fun e_ => Nat.not_le.2 hs_ (by rw [e_]; exact GW224.out)) (fun hn_ => (Kd.freshB (g := gb224) (o := .cells #[.int .i64 a0_0, .string a0_1, .slice A0_2 l0_2.length c0_2] 39 (0, 0)) (pB BK224.out) k_ hn_)), Or.elim hk_ (fun hs_ => fun e_ => Nat.not_le.2 hs_ (by rw [e_]; exact GW225.out)) (fun hn_ => (Kd.freshB (g := gb225) (o := .cells #[.int .i64 a0_4, .string a0_5, .slice A0_6 l0_6.length c0_6] 40 (0, 0)) (pB BK225.out) k_ hn_)), Or.elim hk_ (fun hs_ => fun e_ => Nat.not_le.2 hs_ (by rw [e_]; exact GW235.out)) (fun hn_ => (Kd.freshB (g := gb235) (o := .cells #[.int .i64 t227, .string t228, .slice Ao35 t229.length co35] 39 (0, 0)) (pB BK235.out) k_ hn_)), Or.elim hk_ (fun hs_ => fun e_ => Nat.not_le.2 hs_ (by rw [e_]; exact GW244.out)) (fun hn_ => (Kd.freshB (g := gb244) (o := .cells #[.int .i64 t236, .string t237, .slice Ao45 t238.length co45] 39 (0, 0)) (pB BK244.out) k_ hn_))⟩)) (below_size (by repeat (first | (with_reducible first | exact HB.out | apply below_alloc | apply pw_below_drewN | apply below_drew1 | refine below_set ?_ GE223.out | refine below_set ?_ GE224.out | refine below_set ?_ GE225.out | refine below_set ?_ GE235.out | refine below_set ?_ GE244.out) | exact HB.out)))); have n5_ := Aside0.mk (Kd.V_lower (Kd.V_mono (ok' := fun k_ => some k_ ≠ (v233 : Value).ownBlock ∧ some k_ ≠ (v242 : Value).ownBlock ∧ k_ ≠ gb223 ∧ k_ ≠ gb224 ∧ k_ ≠ gb225 ∧ k_ ≠ gb235 ∧ k_ ≠ gb244) ho1 (fun k_ hk_ => ⟨Or.elim hk_ (fun hs_ => fun e_ => Nat.not_le.2 hs_ (Kd.N_base HO234.out k_ e_.symm)) (fun hn_ => (Kd.fresh' (Kd.N_lt (Kd.pN HO234.out)) k_ hn_)), Or.elim hk_ (fun hs_ => fun e_ => Nat.not_le.2 hs_ (Kd.N_base HO243.out k_ e_.symm)) (fun hn_ => (Kd.fresh' (Kd.N_lt (Kd.pN HO243.out)) k_ hn_)), Or.elim hk_ (fun hs_ => fun e_ => Nat.not_le.2 hs_ (by rw [e_]; exact GW223.out)) (fun hn_ => (Kd.freshB (g := gb223) (o := .cells #[.int .i64 a0_0, .string a0_1, .slice A0_2 l0_2.length c0_2, .slice A0_3 l0_3.length c0_3, .int .i64 a0_4, .string a0_5, .slice A0_6 l0_6.length c0_6, .string a0_7] 42 (0, 0)) (pB BK223.out) k_ hn_)), Or.elim hk_ (fun hs_ => fun e_ => Nat.not_le.2 hs_ (by rw [e_]; exact GW224.out)) (fun hn_ => (Kd.freshB (g := gb224) (o := .cells #[.int .i64 a0_0, .string a0_1, .slice A0_2 l0_2.length c0_2] 39 (0, 0)) (pB BK224.out) k_ hn_)), Or.elim hk_ (fun hs_ => fun e_ => Nat.not_le.2 hs_ (by rw [e_]; exact GW225.out)) (fun hn_ => (Kd.freshB (g := gb225) (o := .cells #[.int .i64 a0_4, .string a0_5, .slice A0_6 l0_6.length c0_6] 40 (0, 0)) (pB BK225.out) k_ hn_)), Or.elim hk_ (fun hs_ => fun e_ => Nat.not_le.2 hs_ (by rw [e_]; exact GW235.out)) (fun hn_ => (Kd.freshB (g := gb235) (o := .cells #[.int .i64 t227, .string t228, .slice Ao35 t229.length co35] 39 (0, 0)) (pB BK235.out) k_ hn_)), Or.elim hk_ (fun hs_ => fun e_ => Nat.not_le.2 hs_ (by rw [e_]; exact GW244.out)) (fun hn_ => (Kd.freshB (g := gb244) (o := .cells #[.int .i64 t236, .string t237, .slice Ao45 t238.length co45] 39 (0, 0)) (pB BK244.out) k_ hn_))⟩)) (below_size (by repeat (first | (with_reducible first | exact HB.out | apply below_alloc | apply pw_below_drewN | apply below_drew1 | refine below_set ?_ GE223.out | refine below_set ?_ GE224.out | refine below_set ?_ GE225.out | refine below_set ?_ GE235.out | refine below_set ?_ GE244.out) | exact HB.out)))); have n6_ := Aside0.mk (blk_below (g := gb223) (o := .cells #[.int .i64 a0_0, .string a0_1, .slice A0_2 l0_2.length c0_2, .slice A0_3 l0_3.length c0_3, .int .i64 a0_4, .string a0_5, .slice A0_6 l0_6.length c0_6, .string a0_7] 42 (0, 0)) (pB BK223.out) hb); have n7_ := Aside0.mk (blk_below (g := gb224) (o := .cells #[.int .i64 a0_0, .string a0_1, .slice A0_2 l0_2.length c0_2] 39 (0, 0)) (pB BK224.out) hb); have n8_ := Aside0.mk (blk_below (g := gb225) (o := .cells #[.int .i64 a0_4, .string a0_5, .slice A0_6 l0_6.length c0_6] 40 (0, 0)) (pB BK225.out) hb); have n9_ := Aside0.mk (blk_below (g := gb235) (o := .cells #[.int .i64 t227, .string t228, .slice Ao35 t229.length co35] 39 (0, 0)) (pB BK235.out) hb); have n10_ := Aside0.mk (blk_below (g := gb244) (o := .cells #[.int .i64 t236, .string t237, .slice Ao45 t238.length co45] 39 (0, 0)) (pB BK244.out) hb); have n11_ := Aside0.mk (below_step (by repeat (first | (with_reducible first | exact HB.out | apply below_alloc | apply pw_below_drewN | apply below_drew1 | refine below_set ?_ GE223.out | refine below_set ?_ GE224.out | refine below_set ?_ GE225.out | refine below_set ?_ GE235.out | refine below_set ?_ GE244.out) | exact HB.out)) hb); clear HO231; clear HO234; clear HO240; clear HO243; clear BK223; clear BK224; clear BK225; clear BK235; clear BK244; clear HB; have HO231 := n0_; have HO234 := n1_; have HO240 := n2_; have HO243 := n3_; have HO249 := n4_; have HO252 := n5_; have BK223 := n6_; have BK224 := n7_; have BK225 := n8_; have BK235 := n9_; have BK244 := n10_; have HB := n11_; clear n0_ n1_ n2_ n3_ n4_ n5_ n6_ n7_ n8_ n9_ n10_ n11_; (try clear hb); (try clear hb2); (try clear hk); (try clear hi); (try clear ho0); (try clear ho1)) | ((with_reducible refine gate_dst (N := 12) rfl ?_); (try (refine gate_guard (by rfl) ?_; dsimp only)); refine box_event ?hg (N := 12) ?hd (cs := #[.int .i64 0, .string (⟨#[]⟩ : ByteArray), .slice none 0 0]) (t := 39) ?hr ?_; (case hd => rfl); (case hg => rfl); (case hr => first | (go_simp; done) | (go_simp; rfl)); intro gb253 hg w49 hbox hb; have n0_ := Aside0.mk (Kd.V_below (Kd.V_elderB (Kd.pV HO231.out) gb253 (Nat.le_of_eq hg.symm)) hb); have n1_ := Aside0.mk (Kd.N_below (Kd.N_elderB (Kd.pN HO234.out) gb253 (Nat.le_of_eq hg.symm)) hb); have n2_ := Aside0.mk (Kd.V_below (Kd.V_elderB (Kd.pV HO240.out) gb253 (Nat.le_of_eq hg.symm)) hb); have n3_ := Aside0.mk (Kd.N_below (Kd.N_elderB (Kd.pN HO243.out) gb253 (Nat.le_of_eq hg.symm)) hb); have n4_ := Aside0.mk (Kd.V_below (Kd.V_elderB (Kd.pV HO249.out) gb253 (Nat.le_of_eq hg.symm)) hb); have n5_ := Aside0.mk (Kd.V_below (Kd.V_elderB (Kd.pV HO252.out) gb253 (Nat.le_of_eq hg.symm)) hb); have n6_ := Aside0.mk (blk_below (g := gb223) (o := .cells #[.int .i64 a0_0, .string a0_1, .slice A0_2 l0_2.length c0_2, .slice A0_3 l0_3.length c0_3, .int .i64 a0_4, .string a0_5, .slice A0_6 l0_6.length c0_6, .string a0_7] 42 (0, 0)) (pB BK223.out) hb); have n7_ := Aside0.mk (blk_below (g := gb224) (o := .cells #[.int .i64 a0_0, .string a0_1, .slice A0_2 l0_2.length c0_2] 39 (0, 0)) (pB BK224.out) hb); have n8_ := Aside0.mk (blk_below (g := gb225) (o := .cells #[.int .i64 a0_4, .string a0_5, .slice A0_6 l0_6.length c0_6] 40 (0, 0)) (pB BK225.out) hb); have n9_ := Aside0.mk (blk_below (g := gb235) (o := .cells #[.int .i64 t227, .string t228, .slice Ao35 t229.length co35] 39 (0, 0)) (pB BK235.out) hb); have n10_ := Aside0.mk (blk_below (g := gb244) (o := .cells #[.int .i64 t236, .string t237, .slice Ao45 t238.length co45] 39 (0, 0)) (pB BK244.out) hb); have n11_ := Aside0.mk (below_step (by repeat (first | (with_reducible first | exact HB.out | apply below_alloc | apply pw_below_drewN | apply below_drew1 | refine below_set ?_ GE223.out | refine below_set ?_ GE224.out | refine below_set ?_ GE225.out | refine below_set ?_ GE235.out | refine below_set ?_ GE244.out) | exact HB.out)) hb); have n12_ := Aside0.mk (hbox); have n13_ := Aside0.mk ((by rw [hg]; exact (below_size (by repeat (first | (with_reducible first | exact HB.out | apply below_alloc | apply pw_below_drewN | apply below_drew1 | refine below_set ?_ GE223.out | refine below_set ?_ GE224.out | refine below_set ?_ GE225.out | refine below_set ?_ GE235.out | refine below_set ?_ GE244.out) | exact HB.out))) : w.heap.size ≤ gb253)); have n14_ := Aside0.mk ((by rw [hg]; exact (below_size (by repeat (first | (with_reducible first | exact HB.out | apply below_alloc | apply pw_below_drewN | apply below_drew1 | refine below_set ?_ GE223.out | refine below_set ?_ GE224.out | refine below_set ?_ GE225.out | refine below_set ?_ GE235.out | refine below_set ?_ GE244.out) | exact HB.out))) : w.heap.size ≤ gb253)); have n15_ := Aside0.mk ((by rw [hg]; exact Nat.ne_of_lt (blk_lt (g := gb223) (o := .cells #[.int .i64 a0_0, .string a0_1, .slice A0_2 l0_2.length c0_2, .slice A0_3 l0_3.length c0_3, .int .i64 a0_4, .string a0_5, .slice A0_6 l0_6.length c0_6, .string a0_7] 42 (0, 0)) (pB BK223.out)) : gb223 ≠ gb253)); have n16_ := Aside0.mk ((by rw [hg]; exact Nat.ne_of_gt (blk_lt (g := gb223) (o := .cells #[.int .i64 a0_0, .string a0_1, .slice A0_2 l0_2.length c0_2, .slice A0_3 l0_3.length c0_3, .int .i64 a0_4, .string a0_5, .slice A0_6 l0_6.length c0_6, .string a0_7] 42 (0, 0)) (pB BK223.out)) : gb253 ≠ gb223)); have n17_ := Aside0.mk ((by rw [hg]; exact Nat.ne_of_lt (blk_lt (g := gb224) (o := .cells #[.int .i64 a0_0, .string a0_1, .slice A0_2 l0_2.length c0_2] 39 (0, 0)) (pB BK224.out)) : gb224 ≠ gb253)); have n18_ := Aside0.mk ((by rw [hg]; exact Nat.ne_of_gt (blk_lt (g := gb224) (o := .cells #[.int .i64 a0_0, .string a0_1, .slice A0_2 l0_2.length c0_2] 39 (0, 0)) (pB BK224.out)) : gb253 ≠ gb224)); have n19_ := Aside0.mk ((by rw [hg]; exact Nat.ne_of_lt (blk_lt (g := gb225) (o := .cells #[.int .i64 a0_4, .string a0_5, .slice A0_6 l0_6.length c0_6] 40 (0, 0)) (pB BK225.out)) : gb225 ≠ gb253)); have n20_ := Aside0.mk ((by rw [hg]; exact Nat.ne_of_gt (blk_lt (g := gb225) (o := .cells #[.int .i64 a0_4, .string a0_5, .slice A0_6 l0_6.length c0_6] 40 (0, 0)) (pB BK225.out)) : gb253 ≠ gb225)); have n21_ := Aside0.mk ((by rw [hg]; exact Nat.ne_of_lt (blk_lt (g := gb235) (o := .cells #[.int .i64 t227, .string t228, .slice Ao35 t229.length co35] 39 (0, 0)) (pB BK235.out)) : gb235 ≠ gb253)); have n22_ := Aside0.mk ((by rw [hg]; exact Nat.ne_of_gt (blk_lt (g := gb235) (o := .cells #[.int .i64 t227, .string t228, .slice Ao35 t229.length co35] 39 (0, 0)) (pB BK235.out)) : gb253 ≠ gb235)); have n23_ := Aside0.mk ((by rw [hg]; exact Nat.ne_of_lt (blk_lt (g := gb244) (o := .cells #[.int .i64 t236, .string t237, .slice Ao45 t238.length co45] 39 (0, 0)) (pB BK244.out)) : gb244 ≠ gb253)); have n24_ := Aside0.mk ((by rw [hg]; exact Nat.ne_of_gt (blk_lt (g := gb244) (o := .cells #[.int .i64 t236, .string t237, .slice Ao45 t238.length co45] 39 (0, 0)) (pB BK244.out)) : gb253 ≠ gb244)); clear HO231; clear HO234; clear HO240; clear HO243; clear HO249; clear HO252; clear BK223; clear BK224; clear BK225; clear BK235; clear BK244; clear HB; have HO231 := n0_; have HO234 := n1_; have HO240 := n2_; have HO243 := n3_; have HO249 := n4_; have HO252 := n5_; have BK223 := n6_; have BK224 := n7_; have BK225 := n8_; have BK235 := n9_; have BK244 := n10_; have HB := n11_; have BK253 := n12_; have GW253 := n13_; have GE253 := n14_; have NB223_253 := n15_; have NB253_223 := n16_; have NB224_253 := n17_; have NB253_224 := n18_; have NB225_253 := n19_; have NB253_225 := n20_; have NB235_253 := n21_; have NB253_235 := n22_; have NB244_253 := n23_; have NB253_244 := n24_; clear n0_ n1_ n2_ n3_ n4_ n5_ n6_ n7_ n8_ n9_ n10_ n11_ n12_ n13_ n14_ n15_ n16_ n17_ n18_ n19_ n20_ n21_ n22_ n23_ n24_; clear hb hbox hg; have hnb50 := NB253_223.out; have hnc50 := NB223_253.out; have hnb51 := NB253_224.out; have hnc51 := NB224_253.out; have hnb52 := NB253_225.out; have hnc52 := NB225_253.out; have hnb53 := NB253_235.out; have hnc53 := NB235_253.out; have hnb54 := NB253_244.out; have hnc54 := NB244_253.out; have hcz55_0 : w49.cell? ⟨gb253, 0, none⟩ = some (.int .i64 0) := (blk_cell BK253.out 0).trans rfl; have hcz55_1 : w49.cell? ⟨gb253, 1, none⟩ = some (.string (⟨#[]⟩ : ByteArray)) := (blk_cell BK253.out 1).trans rfl; have hcz55_2 : w49.cell? ⟨gb253, 2, none⟩ = some (.slice none 0 0) := (blk_cell BK253.out 2).trans rfl; have hfz55_0 := blk_frozen BK253.out 0; have hfz55_1 := blk_frozen BK253.out 1; have hfz55_2 := blk_frozen BK253.out 2; obtain ⟨Ao56, co56, eo56⟩ := Kd.V_slice HO249.out; subst eo56) | ((with_reducible refine gate_store (t := 39) (p := 12) rfl ?_); refine store_event (t := 39) (p := 12) (v := ?vo_w57) (w1 := (((w49.setCell ⟨gb253, 0, none⟩ (.int .i64 t245)).setCell ⟨gb253, 1, none⟩ (.string t246)).setCell ⟨gb253, 2, none⟩ (.slice Ao56 t247.length co56))) ?hg ?ho ?hn ?hr ?_; (case ho => rfl); (case hg => rfl); (case hn => rfl); (case hr => first | (go_simp; done) | (go_simp; rfl)); intro w57 hw; have n0_ : Aside0 (Kd.V Kd.string 9 w57 w.heap.size (fun k_ => some k_ ≠ (v233 : Value).ownBlock ∧ some k_ ≠ (v242 : Value).ownBlock ∧ k_ ≠ gb223 ∧ k_ ≠ gb224 ∧ k_ ≠ gb225 ∧ k_ ≠ gb235 ∧ k_ ≠ gb244 ∧ k_ ≠ gb253) (.slice Ao35 t229.length co35) t229) := ⟨(by rw [hw]; exact (Kd.pV (Kd.V_mono (Kd.V_far (p := ⟨gb253, 2, none⟩) (Kd.V_far (p := ⟨gb253, 1, none⟩) (Kd.V_far (p := ⟨gb253, 0, none⟩) (Kd.V_mono HO231.out (fun k_ hk => (⟨hk, hk.2⟩ : _ ∧ k_ ≠ gb253))) (fun _ hk => hk.2) (.int .i64 t245)) (fun _ hk => hk.2) (.string t246)) (fun _ hk => hk.2) (.slice Ao56 t247.length co56)) (fun _ hk => ⟨hk.1.1.1, ⟨hk.1.1.2.1, ⟨hk.1.1.2.2.1, ⟨hk.1.1.2.2.2.1, ⟨hk.1.1.2.2.2.2.1, ⟨hk.1.1.2.2.2.2.2.1, ⟨hk.1.1.2.2.2.2.2.2, hk.1.2⟩⟩⟩⟩⟩⟩⟩))))⟩; have n1_ : Aside0 (Kd.N k40 40 w57 w.heap.size (fun k_ => some k_ ≠ (v242 : Value).ownBlock ∧ k_ ≠ gb223 ∧ k_ ≠ gb224 ∧ k_ ≠ gb225 ∧ k_ ≠ gb235 ∧ k_ ≠ gb244 ∧ k_ ≠ gb253) v233 t232) := ⟨(by rw [hw]; exact (Kd.pN (Kd.N_mono (Kd.N_far (p := ⟨gb253, 2, none⟩) (Kd.N_far (p := ⟨gb253, 1, none⟩) (Kd.N_far (p := ⟨gb253, 0, none⟩) (Kd.N_mono HO234.out (fun k_ hk => (⟨hk, hk.2⟩ : _ ∧ k_ ≠ gb253))) (fun _ hk => hk.2) (.int .i64 t245)) (fun _ hk => hk.2) (.string t246)) (fun _ hk => hk.2) (.slice Ao56 t247.length co56)) (fun _ hk => ⟨hk.1.1.1, ⟨hk.1.1.2.1, ⟨hk.1.1.2.2.1, ⟨hk.1.1.2.2.2.1, ⟨hk.1.1.2.2.2.2.1, ⟨hk.1.1.2.2.2.2.2, hk.1.2⟩⟩⟩⟩⟩⟩))))⟩; have n2_ : Aside0 (Kd.V Kd.string 9 w57 w.heap.size (fun k_ => some k_ ≠ (v233 : Value).ownBlock ∧ some k_ ≠ (v242 : Value).ownBlock ∧ k_ ≠ gb223 ∧ k_ ≠ gb224 ∧ k_ ≠ gb225 ∧ k_ ≠ gb235 ∧ k_ ≠ gb244 ∧ k_ ≠ gb253) (.slice Ao45 t238.length co45) t238) := ⟨(by rw [hw]; exact (Kd.pV (Kd.V_mono (Kd.V_far (p := ⟨gb253, 2, none⟩) (Kd.V_far (p := ⟨gb253, 1, none⟩) (Kd.V_far (p := ⟨gb253, 0, none⟩) (Kd.V_mono HO240.out (fun k_ hk => (⟨hk, hk.2⟩ : _ ∧ k_ ≠ gb253))) (fun _ hk => hk.2) (.int .i64 t245)) (fun _ hk => hk.2) (.string t246)) (fun _ hk => hk.2) (.slice Ao56 t247.length co56)) (fun _ hk => ⟨hk.1.1.1, ⟨hk.1.1.2.1, ⟨hk.1.1.2.2.1, ⟨hk.1.1.2.2.2.1, ⟨hk.1.1.2.2.2.2.1, ⟨hk.1.1.2.2.2.2.2.1, ⟨hk.1.1.2.2.2.2.2.2, hk.1.2⟩⟩⟩⟩⟩⟩⟩))))⟩; have n3_ : Aside0 (Kd.N k40 40 w57 w.heap.size (fun k_ => some k_ ≠ (v233 : Value).ownBlock ∧ k_ ≠ gb223 ∧ k_ ≠ gb224 ∧ k_ ≠ gb225 ∧ k_ ≠ gb235 ∧ k_ ≠ gb244 ∧ k_ ≠ gb253) v242 t241) := ⟨(by rw [hw]; exact (Kd.pN (Kd.N_mono (Kd.N_far (p := ⟨gb253, 2, none⟩) (Kd.N_far (p := ⟨gb253, 1, none⟩) (Kd.N_far (p := ⟨gb253, 0, none⟩) (Kd.N_mono HO243.out (fun k_ hk => (⟨hk, hk.2⟩ : _ ∧ k_ ≠ gb253))) (fun _ hk => hk.2) (.int .i64 t245)) (fun _ hk => hk.2) (.string t246)) (fun _ hk => hk.2) (.slice Ao56 t247.length co56)) (fun _ hk => ⟨hk.1.1.1, ⟨hk.1.1.2.1, ⟨hk.1.1.2.2.1, ⟨hk.1.1.2.2.2.1, ⟨hk.1.1.2.2.2.2.1, ⟨hk.1.1.2.2.2.2.2, hk.1.2⟩⟩⟩⟩⟩⟩))))⟩; have n4_ : Aside0 (Kd.V Kd.string 9 w57 w.heap.size (fun k_ => some k_ ≠ (v233 : Value).ownBlock ∧ some k_ ≠ (v242 : Value).ownBlock ∧ k_ ≠ gb223 ∧ k_ ≠ gb224 ∧ k_ ≠ gb225 ∧ k_ ≠ gb235 ∧ k_ ≠ gb244 ∧ k_ ≠ gb253) (.slice Ao56 t247.length co56) t247) := ⟨(by rw [hw]; exact (Kd.pV (Kd.V_mono (Kd.V_far (p := ⟨gb253, 2, none⟩) (Kd.V_far (p := ⟨gb253, 1, none⟩) (Kd.V_far (p := ⟨gb253, 0, none⟩) (Kd.V_mono HO249.out (fun k_ hk => (⟨hk, hk.2⟩ : _ ∧ k_ ≠ gb253))) (fun _ hk => hk.2) (.int .i64 t245)) (fun _ hk => hk.2) (.string t246)) (fun _ hk => hk.2) (.slice Ao56 t247.length co56)) (fun _ hk => ⟨hk.1.1.1, ⟨hk.1.1.2.1, ⟨hk.1.1.2.2.1, ⟨hk.1.1.2.2.2.1, ⟨hk.1.1.2.2.2.2.1, ⟨hk.1.1.2.2.2.2.2.1, ⟨hk.1.1.2.2.2.2.2.2, hk.1.2⟩⟩⟩⟩⟩⟩⟩))))⟩; have n5_ : Aside0 (Kd.V k40 40 w57 w.heap.size (fun k_ => some k_ ≠ (v233 : Value).ownBlock ∧ some k_ ≠ (v242 : Value).ownBlock ∧ k_ ≠ gb223 ∧ k_ ≠ gb224 ∧ k_ ≠ gb225 ∧ k_ ≠ gb235 ∧ k_ ≠ gb244 ∧ k_ ≠ gb253) v251 t250) := ⟨(by rw [hw]; exact (Kd.pV (Kd.V_mono (Kd.V_far (p := ⟨gb253, 2, none⟩) (Kd.V_far (p := ⟨gb253, 1, none⟩) (Kd.V_far (p := ⟨gb253, 0, none⟩) (Kd.V_mono HO252.out (fun k_ hk => (⟨hk, hk.2⟩ : _ ∧ k_ ≠ gb253))) (fun _ hk => hk.2) (.int .i64 t245)) (fun _ hk => hk.2) (.string t246)) (fun _ hk => hk.2) (.slice Ao56 t247.length co56)) (fun _ hk => ⟨hk.1.1.1, ⟨hk.1.1.2.1, ⟨hk.1.1.2.2.1, ⟨hk.1.1.2.2.2.1, ⟨hk.1.1.2.2.2.2.1, ⟨hk.1.1.2.2.2.2.2.1, ⟨hk.1.1.2.2.2.2.2.2, hk.1.2⟩⟩⟩⟩⟩⟩⟩))))⟩; have n6_ : Aside0 (w57.heap[gb223]? = some (.cells #[.int .i64 a0_0, .string a0_1, .slice A0_2 l0_2.length c0_2, .slice A0_3 l0_3.length c0_3, .int .i64 a0_4, .string a0_5, .slice A0_6 l0_6.length c0_6, .string a0_7] 42 (0, 0))) := ⟨(by rw [hw]; exact (by (with_reducible repeat (first | refine blk_drewN ?_ _ | refine blk_drew ?_ | refine blk_alloc ?_ _)); refine blk_far ?_ NB223_253.out _; (with_reducible repeat (first | refine blk_drewN ?_ _ | refine blk_drew ?_ | refine blk_alloc ?_ _)); refine blk_far ?_ NB223_253.out _; (with_reducible repeat (first | refine blk_drewN ?_ _ | refine blk_drew ?_ | refine blk_alloc ?_ _)); refine blk_far ?_ NB223_253.out _; (with_reducible repeat (first | refine blk_drewN ?_ _ | refine blk_drew ?_ | refine blk_alloc ?_ _)); exact BK223.out))⟩; have n7_ : Aside0 (w57.heap[gb224]? = some (.cells #[.int .i64 a0_0, .string a0_1, .slice A0_2 l0_2.length c0_2] 39 (0, 0))) := ⟨(by rw [hw]; exact (by (with_reducible repeat (first | refine blk_drewN ?_ _ | refine blk_drew ?_ | refine blk_alloc ?_ _)); refine blk_far ?_ NB224_253.out _; (with_reducible repeat (first | refine blk_drewN ?_ _ | refine blk_drew ?_ | refine blk_alloc ?_ _)); refine blk_far ?_ NB224_253.out _; (with_reducible repeat (first | refine blk_drewN ?_ _ | refine blk_drew ?_ | refine blk_alloc ?_ _)); refine blk_far ?_ NB224_253.out _; (with_reducible repeat (first | refine blk_drewN ?_ _ | refine blk_drew ?_ | refine blk_alloc ?_ _)); exact BK224.out))⟩; have n8_ : Aside0 (w57.heap[gb225]? = some (.cells #[.int .i64 a0_4, .string a0_5, .slice A0_6 l0_6.length c0_6] 40 (0, 0))) := ⟨(by rw [hw]; exact (by (with_reducible repeat (first | refine blk_drewN ?_ _ | refine blk_drew ?_ | refine blk_alloc ?_ _)); refine blk_far ?_ NB225_253.out _; (with_reducible repeat (first | refine blk_drewN ?_ _ | refine blk_drew ?_ | refine blk_alloc ?_ _)); refine blk_far ?_ NB225_253.out _; (with_reducible repeat (first | refine blk_drewN ?_ _ | refine blk_drew ?_ | refine blk_alloc ?_ _)); refine blk_far ?_ NB225_253.out _; (with_reducible repeat (first | refine blk_drewN ?_ _ | refine blk_drew ?_ | refine blk_alloc ?_ _)); exact BK225.out))⟩; have n9_ : Aside0 (w57.heap[gb235]? = some (.cells #[.int .i64 t227, .string t228, .slice Ao35 t229.length co35] 39 (0, 0))) := ⟨(by rw [hw]; exact (by (with_reducible repeat (first | refine blk_drewN ?_ _ | refine blk_drew ?_ | refine blk_alloc ?_ _)); refine blk_far ?_ NB235_253.out _; (with_reducible repeat (first | refine blk_drewN ?_ _ | refine blk_drew ?_ | refine blk_alloc ?_ _)); refine blk_far ?_ NB235_253.out _; (with_reducible repeat (first | refine blk_drewN ?_ _ | refine blk_drew ?_ | refine blk_alloc ?_ _)); refine blk_far ?_ NB235_253.out _; (with_reducible repeat (first | refine blk_drewN ?_ _ | refine blk_drew ?_ | refine blk_alloc ?_ _)); exact BK235.out))⟩; have n10_ : Aside0 (w57.heap[gb244]? = some (.cells #[.int .i64 t236, .string t237, .slice Ao45 t238.length co45] 39 (0, 0))) := ⟨(by rw [hw]; exact (by (with_reducible repeat (first | refine blk_drewN ?_ _ | refine blk_drew ?_ | refine blk_alloc ?_ _)); refine blk_far ?_ NB244_253.out _; (with_reducible repeat (first | refine blk_drewN ?_ _ | refine blk_drew ?_ | refine blk_alloc ?_ _)); refine blk_far ?_ NB244_253.out _; (with_reducible repeat (first | refine blk_drewN ?_ _ | refine blk_drew ?_ | refine blk_alloc ?_ _)); refine blk_far ?_ NB244_253.out _; (with_reducible repeat (first | refine blk_drewN ?_ _ | refine blk_drew ?_ | refine blk_alloc ?_ _)); exact BK244.out))⟩; have n11_ : Aside0 (w57.heap[gb253]? = some (.cells #[.int .i64 t245, .string t246, .slice Ao56 t247.length co56] 39 (0, 0))) := ⟨(by rw [hw]; exact (by (with_reducible repeat (first | refine blk_drewN ?_ _ | refine blk_drew ?_ | refine blk_alloc ?_ _)); refine blk_put (cs := #[.int .i64 t245, .string t246, .slice none 0 0]) ?_ 2 _ rfl; (with_reducible repeat (first | refine blk_drewN ?_ _ | refine blk_drew ?_ | refine blk_alloc ?_ _)); refine blk_put (cs := #[.int .i64 t245, .string (⟨#[]⟩ : ByteArray), .slice none 0 0]) ?_ 1 _ rfl; (with_reducible repeat (first | refine blk_drewN ?_ _ | refine blk_drew ?_ | refine blk_alloc ?_ _)); refine blk_put (cs := #[.int .i64 0, .string (⟨#[]⟩ : ByteArray), .slice none 0 0]) ?_ 0 _ rfl; (with_reducible repeat (first | refine blk_drewN ?_ _ | refine blk_drew ?_ | refine blk_alloc ?_ _)); exact BK253.out))⟩; have n12_ : Aside0 (Below w.heap.size w w57) := ⟨(by rw [hw]; exact (by repeat (first | (with_reducible first | exact HB.out | apply below_alloc | apply pw_below_drewN | apply below_drew1 | refine below_set ?_ GE223.out | refine below_set ?_ GE224.out | refine below_set ?_ GE225.out | refine below_set ?_ GE235.out | refine below_set ?_ GE244.out | refine below_set ?_ GE253.out) | exact HB.out)))⟩; clear hw; clear HO231; clear HO234; clear HO240; clear HO243; clear HO249; clear HO252; clear BK223; clear BK224; clear BK225; clear BK235; clear BK244; clear BK253; clear HB; have HO231 := n0_; have HO234 := n1_; have HO240 := n2_; have HO243 := n3_; have HO249 := n4_; have HO252 := n5_; have BK223 := n6_; have BK224 := n7_; have BK225 := n8_; have BK235 := n9_; have BK244 := n10_; have BK253 := n11_; have HB := n12_; clear n0_ n1_ n2_ n3_ n4_ n5_ n6_ n7_ n8_ n9_ n10_ n11_ n12_; have hcz58_0 : w57.cell? ⟨gb224, 0, none⟩ = some (.int .i64 a0_0) := (blk_cell BK224.out 0).trans rfl; have hcz58_1 : w57.cell? ⟨gb224, 1, none⟩ = some (.string a0_1) := (blk_cell BK224.out 1).trans rfl; have hcz58_2 : w57.cell? ⟨gb224, 2, none⟩ = some (.slice A0_2 l0_2.length c0_2) := (blk_cell BK224.out 2).trans rfl; have hfz58_0 := blk_frozen BK224.out 0; have hfz58_1 := blk_frozen BK224.out 1; have hfz58_2 := blk_frozen BK224.out 2) | ((with_reducible refine gate_callee (f := 41) rfl ?_); refine goesL_ (some 56) rfl rfl Try.func41 (by kernel_rfl) rfl #[.agg #[.int .i64 a0_0, .string a0_1, .slice A0_2 l0_2.length c0_2]] rfl (by (try simp only [List.map_toArray, List.map_cons, List.map_nil]); first | done | rfl | (simp only [List.length_drop, List.length_take]; rfl)) ?_; (with_reducible refine (selvedgeref15_Flush.calls a0_0 a0_1 (fun k_ => k_ < w.heap.size) _ _ l0_2 t254 t255 t256 t259 _ ?side1 A24.out).mono ?_); (case side1 => exact Kd.V_mk HC0_2.out (Kd.F_below (Kd.C_F Kd.heap_string HR0_2.out) (by repeat (first | (with_reducible first | exact HB.out | apply below_alloc | apply pw_below_drewN | apply below_drew1 | refine below_set ?_ GE223.out | refine below_set ?_ GE224.out | refine below_set ?_ GE225.out | refine below_set ?_ GE235.out | refine below_set ?_ GE244.out | refine below_set ?_ GE253.out) | exact HB.out)))); rintro e w59 ⟨v257, v260, rfl, ho0, ho1, hb⟩; refine ⟨_, rfl, ?_⟩; have n0_ := Aside0.mk (Kd.V_below (Kd.pV HO231.out) hb); have n1_ := Aside0.mk (Kd.N_below (Kd.pN HO234.out) hb); have n2_ := Aside0.mk (Kd.V_below (Kd.pV HO240.out) hb); have n3_ := Aside0.mk (Kd.N_below (Kd.pN HO243.out) hb); have n4_ := Aside0.mk (Kd.V_below (Kd.pV HO249.out) hb); have n5_ := Aside0.mk (Kd.V_below (Kd.pV HO252.out) hb); have n6_ := Aside0.mk (Kd.V_lower (Kd.V_mono (ok' := fun k_ => some k_ ≠ (v233 : Value).ownBlock ∧ some k_ ≠ (v242 : Value).ownBlock ∧ k_ ≠ gb223 ∧ k_ ≠ gb224 ∧ k_ ≠ gb225 ∧ k_ ≠ gb235 ∧ k_ ≠ gb244 ∧ k_ ≠ gb253) ho0 (fun k_ hk_ => ⟨Or.elim hk_ (fun hs_ => fun e_ => Nat.not_le.2 hs_ (Kd.N_base HO234.out k_ e_.symm)) (fun hn_ => (Kd.fresh' (Kd.N_lt (Kd.pN HO234.out)) k_ hn_)), Or.elim hk_ (fun hs_ => fun e_ => Nat.not_le.2 hs_ (Kd.N_base HO243.out k_ e_.symm)) (fun hn_ => (Kd.fresh' (Kd.N_lt (Kd.pN HO243.out)) k_ hn_)), Or.elim hk_ (fun hs_ => fun e_ => Nat.not_le.2 hs_ (by rw [e_]; exact GW223.out)) (fun hn_ => (Kd.freshB (g := gb223) (o := .cells #[.int .i64 a0_0, .string a0_1, .slice A0_2 l0_2.length c0_2, .slice A0_3 l0_3.length c0_3, .int .i64 a0_4, .string a0_5, .slice A0_6 l0_6.length c0_6, .string a0_7] 42 (0, 0)) (pB BK223.out) k_ hn_)), Or.elim hk_ (fun hs_ => fun e_ => Nat.not_le.2 hs_ (by rw [e_]; exact GW224.out)) (fun hn_ => (Kd.freshB (g := gb224) (o := .cells #[.int .i64 a0_0, .string a0_1, .slice A0_2 l0_2.length c0_2] 39 (0, 0)) (pB BK224.out) k_ hn_)), Or.elim hk_ (fun hs_ => fun e_ => Nat.not_le.2 hs_ (by rw [e_]; exact GW225.out)) (fun hn_ => (Kd.freshB (g := gb225) (o := .cells #[.int .i64 a0_4, .string a0_5, .slice A0_6 l0_6.length c0_6] 40 (0, 0)) (pB BK225.out) k_ hn_)), Or.elim hk_ (fun hs_ => fun e_ => Nat.not_le.2 hs_ (by rw [e_]; exact GW235.out)) (fun hn_ => (Kd.freshB (g := gb235) (o := .cells #[.int .i64 t227, .string t228, .slice Ao35 t229.length co35] 39 (0, 0)) (pB BK235.out) k_ hn_)), Or.elim hk_ (fun hs_ => fun e_ => Nat.not_le.2 hs_ (by rw [e_]; exact GW244.out)) (fun hn_ => (Kd.freshB (g := gb244) (o := .cells #[.int .i64 t236, .string t237, .slice Ao45 t238.length co45] 39 (0, 0)) (pB BK244.out) k_ hn_)), Or.elim hk_ (fun hs_ => fun e_ => Nat.not_le.2 hs_ (by rw [e_]; exact GW253.out)) (fun hn_ => (Kd.freshB (g := gb253) (o := .cells #[.int .i64 t245, .string t246, .slice Ao56 t247.length co56] 39 (0, 0)) (pB BK253.out) k_ hn_))⟩)) (below_size (by repeat (first | (with_reducible first | exact HB.out | apply below_alloc | apply pw_below_drewN | apply below_drew1 | refine below_set ?_ GE223.out | refine below_set ?_ GE224.out | refine below_set ?_ GE225.out | refine below_set ?_ GE235.out | refine below_set ?_ GE244.out | refine below_set ?_ GE253.out) | exact HB.out)))); have n7_ := Aside0.mk (Kd.V_lower (Kd.V_mono (ok' := fun k_ => some k_ ≠ (v233 : Value).ownBlock ∧ some k_ ≠ (v242 : Value).ownBlock ∧ k_ ≠ gb223 ∧ k_ ≠ gb224 ∧ k_ ≠ gb225 ∧ k_ ≠ gb235 ∧ k_ ≠ gb244 ∧ k_ ≠ gb253) ho1 (fun k_ hk_ => ⟨Or.elim hk_ (fun hs_ => fun e_ => Nat.not_le.2 hs_ (Kd.N_base HO234.out k_ e_.symm)) (fun hn_ => (Kd.fresh' (Kd.N_lt (Kd.pN HO234.out)) k_ hn_)), Or.elim hk_ (fun hs_ => fun e_ => Nat.not_le.2 hs_ (Kd.N_base HO243.out k_ e_.symm)) (fun hn_ => (Kd.fresh' (Kd.N_lt (Kd.pN HO243.out)) k_ hn_)), Or.elim hk_ (fun hs_ => fun e_ => Nat.not_le.2 hs_ (by rw [e_]; exact GW223.out)) (fun hn_ => (Kd.freshB (g := gb223) (o := .cells #[.int .i64 a0_0, .string a0_1, .slice A0_2 l0_2.length c0_2, .slice A0_3 l0_3.length c0_3, .int .i64 a0_4, .string a0_5, .slice A0_6 l0_6.length c0_6, .string a0_7] 42 (0, 0)) (pB BK223.out) k_ hn_)), Or.elim hk_ (fun hs_ => fun e_ => Nat.not_le.2 hs_ (by rw [e_]; exact GW224.out)) (fun hn_ => (Kd.freshB (g := gb224) (o := .cells #[.int .i64 a0_0, .string a0_1, .slice A0_2 l0_2.length c0_2] 39 (0, 0)) (pB BK224.out) k_ hn_)), Or.elim hk_ (fun hs_ => fun e_ => Nat.not_le.2 hs_ (by rw [e_]; exact GW225.out)) (fun hn_ => (Kd.freshB (g := gb225) (o := .cells #[.int .i64 a0_4, .string a0_5, .slice A0_6 l0_6.length c0_6] 40 (0, 0)) (pB BK225.out) k_ hn_)), Or.elim hk_ (fun hs_ => fun e_ => Nat.not_le.2 hs_ (by rw [e_]; exact GW235.out)) (fun hn_ => (Kd.freshB (g := gb235) (o := .cells #[.int .i64 t227, .string t228, .slice Ao35 t229.length co35] 39 (0, 0)) (pB BK235.out) k_ hn_)), Or.elim hk_ (fun hs_ => fun e_ => Nat.not_le.2 hs_ (by rw [e_]; exact GW244.out)) (fun hn_ => (Kd.freshB (g := gb244) (o := .cells #[.int .i64 t236, .string t237, .slice Ao45 t238.length co45] 39 (0, 0)) (pB BK244.out) k_ hn_)), Or.elim hk_ (fun hs_ => fun e_ => Nat.not_le.2 hs_ (by rw [e_]; exact GW253.out)) (fun hn_ => (Kd.freshB (g := gb253) (o := .cells #[.int .i64 t245, .string t246, .slice Ao56 t247.length co56] 39 (0, 0)) (pB BK253.out) k_ hn_))⟩)) (below_size (by repeat (first | (with_reducible first | exact HB.out | apply below_alloc | apply pw_below_drewN | apply below_drew1 | refine below_set ?_ GE223.out | refine below_set ?_ GE224.out | refine below_set ?_ GE225.out | refine below_set ?_ GE235.out | refine below_set ?_ GE244.out | refine below_set ?_ GE253.out) | exact HB.out)))); have n8_ := Aside0.mk (blk_below (g := gb223) (o := .cells #[.int .i64 a0_0, .string a0_1, .slice A0_2 l0_2.length c0_2, .slice A0_3 l0_3.length c0_3, .int .i64 a0_4, .string a0_5, .slice A0_6 l0_6.length c0_6, .string a0_7] 42 (0, 0)) (pB BK223.out) hb); have n9_ := Aside0.mk (blk_below (g := gb224) (o := .cells #[.int .i64 a0_0, .string a0_1, .slice A0_2 l0_2.length c0_2] 39 (0, 0)) (pB BK224.out) hb); have n10_ := Aside0.mk (blk_below (g := gb225) (o := .cells #[.int .i64 a0_4, .string a0_5, .slice A0_6 l0_6.length c0_6] 40 (0, 0)) (pB BK225.out) hb); have n11_ := Aside0.mk (blk_below (g := gb235) (o := .cells #[.int .i64 t227, .string t228, .slice Ao35 t229.length co35] 39 (0, 0)) (pB BK235.out) hb); have n12_ := Aside0.mk (blk_below (g := gb244) (o := .cells #[.int .i64 t236, .string t237, .slice Ao45 t238.length co45] 39 (0, 0)) (pB BK244.out) hb); have n13_ := Aside0.mk (blk_below (g := gb253) (o := .cells #[.int .i64 t245, .string t246, .slice Ao56 t247.length co56] 39 (0, 0)) (pB BK253.out) hb); have n14_ := Aside0.mk (below_step (by repeat (first | (with_reducible first | exact HB.out | apply below_alloc | apply pw_below_drewN | apply below_drew1 | refine below_set ?_ GE223.out | refine below_set ?_ GE224.out | refine below_set ?_ GE225.out | refine below_set ?_ GE235.out | refine below_set ?_ GE244.out | refine below_set ?_ GE253.out) | exact HB.out)) hb); clear HO231; clear HO234; clear HO240; clear HO243; clear HO249; clear HO252; clear BK223; clear BK224; clear BK225; clear BK235; clear BK244; clear BK253; clear HB; have HO231 := n0_; have HO234 := n1_; have HO240 := n2_; have HO243 := n3_; have HO249 := n4_; have HO252 := n5_; have HO258 := n6_; have HO261 := n7_; have BK223 := n8_; have BK224 := n9_; have BK225 := n10_; have BK235 := n11_; have BK244 := n12_; have BK253 := n13_; have HB := n14_; clear n0_ n1_ n2_ n3_ n4_ n5_ n6_ n7_ n8_ n9_ n10_ n11_ n12_ n13_ n14_; (try clear hb); (try clear hb2); (try clear hk); (try clear hi); (try clear ho0); (try clear ho1)) | ((with_reducible refine gate_dst (N := 14) rfl ?_); (try (refine gate_guard (by rfl) ?_; dsimp only)); refine box_event ?hg (N := 14) ?hd (cs := #[.int .i64 0, .string (⟨#[]⟩ : ByteArray), .slice none 0 0]) (t := 39) ?hr ?_; (case hd => rfl); (case hg => rfl); (case hr => first | (go_simp; done) | (go_simp; rfl)); intro gb262 hg w60 hbox hb; have n0_ := Aside0.mk (Kd.V_below (Kd.V_elderB (Kd.pV HO231.out) gb262 (Nat.le_of_eq hg.symm)) hb); have n1_ := Aside0.mk (Kd.N_below (Kd.N_elderB (Kd.pN HO234.out) gb262 (Nat.le_of_eq hg.symm)) hb); have n2_ := Aside0.mk (Kd.V_below (Kd.V_elderB (Kd.pV HO240.out) gb262 (Nat.le_of_eq hg.symm)) hb); have n3_ := Aside0.mk (Kd.N_below (Kd.N_elderB (Kd.pN HO243.out) gb262 (Nat.le_of_eq hg.symm)) hb); have n4_ := Aside0.mk (Kd.V_below (Kd.V_elderB (Kd.pV HO249.out) gb262 (Nat.le_of_eq hg.symm)) hb); have n5_ := Aside0.mk (Kd.V_below (Kd.V_elderB (Kd.pV HO252.out) gb262 (Nat.le_of_eq hg.symm)) hb); have n6_ := Aside0.mk (Kd.V_below (Kd.V_elderB (Kd.pV HO258.out) gb262 (Nat.le_of_eq hg.symm)) hb); have n7_ := Aside0.mk (Kd.V_below (Kd.V_elderB (Kd.pV HO261.out) gb262 (Nat.le_of_eq hg.symm)) hb); have n8_ := Aside0.mk (blk_below (g := gb223) (o := .cells #[.int .i64 a0_0, .string a0_1, .slice A0_2 l0_2.length c0_2, .slice A0_3 l0_3.length c0_3, .int .i64 a0_4, .string a0_5, .slice A0_6 l0_6.length c0_6, .string a0_7] 42 (0, 0)) (pB BK223.out) hb); have n9_ := Aside0.mk (blk_below (g := gb224) (o := .cells #[.int .i64 a0_0, .string a0_1, .slice A0_2 l0_2.length c0_2] 39 (0, 0)) (pB BK224.out) hb); have n10_ := Aside0.mk (blk_below (g := gb225) (o := .cells #[.int .i64 a0_4, .string a0_5, .slice A0_6 l0_6.length c0_6] 40 (0, 0)) (pB BK225.out) hb); have n11_ := Aside0.mk (blk_below (g := gb235) (o := .cells #[.int .i64 t227, .string t228, .slice Ao35 t229.length co35] 39 (0, 0)) (pB BK235.out) hb); have n12_ := Aside0.mk (blk_below (g := gb244) (o := .cells #[.int .i64 t236, .string t237, .slice Ao45 t238.length co45] 39 (0, 0)) (pB BK244.out) hb); have n13_ := Aside0.mk (blk_below (g := gb253) (o := .cells #[.int .i64 t245, .string t246, .slice Ao56 t247.length co56] 39 (0, 0)) (pB BK253.out) hb); have n14_ := Aside0.mk (below_step (by repeat (first | (with_reducible first | exact HB.out | apply below_alloc | apply pw_below_drewN | apply below_drew1 | refine below_set ?_ GE223.out | refine below_set ?_ GE224.out | refine below_set ?_ GE225.out | refine below_set ?_ GE235.out | refine below_set ?_ GE244.out | refine below_set ?_ GE253.out) | exact HB.out)) hb); have n15_ := Aside0.mk (hbox); have n16_ := Aside0.mk ((by rw [hg]; exact (below_size (by repeat (first | (with_reducible first | exact HB.out | apply below_alloc | apply pw_below_drewN | apply below_drew1 | refine below_set ?_ GE223.out | refine below_set ?_ GE224.out | refine below_set ?_ GE225.out | refine below_set ?_ GE235.out | refine below_set ?_ GE244.out | refine below_set ?_ GE253.out) | exact HB.out))) : w.heap.size ≤ gb262)); have n17_ := Aside0.mk ((by rw [hg]; exact (below_size (by repeat (first | (with_reducible first | exact HB.out | apply below_alloc | apply pw_below_drewN | apply below_drew1 | refine below_set ?_ GE223.out | refine below_set ?_ GE224.out | refine below_set ?_ GE225.out | refine below_set ?_ GE235.out | refine below_set ?_ GE244.out | refine below_set ?_ GE253.out) | exact HB.out))) : w.heap.size ≤ gb262)); have n18_ := Aside0.mk ((by rw [hg]; exact Nat.ne_of_lt (blk_lt (g := gb223) (o := .cells #[.int .i64 a0_0, .string a0_1, .slice A0_2 l0_2.length c0_2, .slice A0_3 l0_3.length c0_3, .int .i64 a0_4, .string a0_5, .slice A0_6 l0_6.length c0_6, .string a0_7] 42 (0, 0)) (pB BK223.out)) : gb223 ≠ gb262)); have n19_ := Aside0.mk ((by rw [hg]; exact Nat.ne_of_gt (blk_lt (g := gb223) (o := .cells #[.int .i64 a0_0, .string a0_1, .slice A0_2 l0_2.length c0_2, .slice A0_3 l0_3.length c0_3, .int .i64 a0_4, .string a0_5, .slice A0_6 l0_6.length c0_6, .string a0_7] 42 (0, 0)) (pB BK223.out)) : gb262 ≠ gb223)); have n20_ := Aside0.mk ((by rw [hg]; exact Nat.ne_of_lt (blk_lt (g := gb224) (o := .cells #[.int .i64 a0_0, .string a0_1, .slice A0_2 l0_2.length c0_2] 39 (0, 0)) (pB BK224.out)) : gb224 ≠ gb262)); have n21_ := Aside0.mk ((by rw [hg]; exact Nat.ne_of_gt (blk_lt (g := gb224) (o := .cells #[.int .i64 a0_0, .string a0_1, .slice A0_2 l0_2.length c0_2] 39 (0, 0)) (pB BK224.out)) : gb262 ≠ gb224)); have n22_ := Aside0.mk ((by rw [hg]; exact Nat.ne_of_lt (blk_lt (g := gb225) (o := .cells #[.int .i64 a0_4, .string a0_5, .slice A0_6 l0_6.length c0_6] 40 (0, 0)) (pB BK225.out)) : gb225 ≠ gb262)); have n23_ := Aside0.mk ((by rw [hg]; exact Nat.ne_of_gt (blk_lt (g := gb225) (o := .cells #[.int .i64 a0_4, .string a0_5, .slice A0_6 l0_6.length c0_6] 40 (0, 0)) (pB BK225.out)) : gb262 ≠ gb225)); have n24_ := Aside0.mk ((by rw [hg]; exact Nat.ne_of_lt (blk_lt (g := gb235) (o := .cells #[.int .i64 t227, .string t228, .slice Ao35 t229.length co35] 39 (0, 0)) (pB BK235.out)) : gb235 ≠ gb262)); have n25_ := Aside0.mk ((by rw [hg]; exact Nat.ne_of_gt (blk_lt (g := gb235) (o := .cells #[.int .i64 t227, .string t228, .slice Ao35 t229.length co35] 39 (0, 0)) (pB BK235.out)) : gb262 ≠ gb235)); have n26_ := Aside0.mk ((by rw [hg]; exact Nat.ne_of_lt (blk_lt (g := gb244) (o := .cells #[.int .i64 t236, .string t237, .slice Ao45 t238.length co45] 39 (0, 0)) (pB BK244.out)) : gb244 ≠ gb262)); have n27_ := Aside0.mk ((by rw [hg]; exact Nat.ne_of_gt (blk_lt (g := gb244) (o := .cells #[.int .i64 t236, .string t237, .slice Ao45 t238.length co45] 39 (0, 0)) (pB BK244.out)) : gb262 ≠ gb244)); have n28_ := Aside0.mk ((by rw [hg]; exact Nat.ne_of_lt (blk_lt (g := gb253) (o := .cells #[.int .i64 t245, .string t246, .slice Ao56 t247.length co56] 39 (0, 0)) (pB BK253.out)) : gb253 ≠ gb262)); have n29_ := Aside0.mk ((by rw [hg]; exact Nat.ne_of_gt (blk_lt (g := gb253) (o := .cells #[.int .i64 t245, .string t246, .slice Ao56 t247.length co56] 39 (0, 0)) (pB BK253.out)) : gb262 ≠ gb253)); clear HO231; clear HO234; clear HO240; clear HO243; clear HO249; clear HO252; clear HO258; clear HO261; clear BK223; clear BK224; clear BK225; clear BK235; clear BK244; clear BK253; clear HB; have HO231 := n0_; have HO234 := n1_; have HO240 := n2_; have HO243 := n3_; have HO249 := n4_; have HO252 := n5_; have HO258 := n6_; have HO261 := n7_; have BK223 := n8_; have BK224 := n9_; have BK225 := n10_; have BK235 := n11_; have BK244 := n12_; have BK253 := n13_; have HB := n14_; have BK262 := n15_; have GW262 := n16_; have GE262 := n17_; have NB223_262 := n18_; have NB262_223 := n19_; have NB224_262 := n20_; have NB262_224 := n21_; have NB225_262 := n22_; have NB262_225 := n23_; have NB235_262 := n24_; have NB262_235 := n25_; have NB244_262 := n26_; have NB262_244 := n27_; have NB253_262 := n28_; have NB262_253 := n29_; clear n0_ n1_ n2_ n3_ n4_ n5_ n6_ n7_ n8_ n9_ n10_ n11_ n12_ n13_ n14_ n15_ n16_ n17_ n18_ n19_ n20_ n21_ n22_ n23_ n24_ n25_ n26_ n27_ n28_ n29_; clear hb hbox hg; have hnb61 := NB262_223.out; have hnc61 := NB223_262.out; have hnb62 := NB262_224.out; have hnc62 := NB224_262.out; have hnb63 := NB262_225.out; have hnc63 := NB225_262.out; have hnb64 := NB262_235.out; have hnc64 := NB235_262.out; have hnb65 := NB262_244.out; have hnc65 := NB244_262.out; have hnb66 := NB262_253.out; have hnc66 := NB253_262.out; have hcz67_0 : w60.cell? ⟨gb262, 0, none⟩ = some (.int .i64 0) := (blk_cell BK262.out 0).trans rfl; have hcz67_1 : w60.cell? ⟨gb262, 1, none⟩ = some (.string (⟨#[]⟩ : ByteArray)) := (blk_cell BK262.out 1).trans rfl; have hcz67_2 : w60.cell? ⟨gb262, 2, none⟩ = some (.slice none 0 0) := (blk_cell BK262.out 2).trans rfl; have hfz67_0 := blk_frozen BK262.out 0; have hfz67_1 := blk_frozen BK262.out 1; have hfz67_2 := blk_frozen BK262.out 2; obtain ⟨Ao68, co68, eo68⟩ := Kd.V_slice HO258.out; subst eo68))
    (try simp only [Act.put, List.setIfInBounds_toArray, List.set_cons_zero, List.set_cons_succ])
    go_cut [16] (fun v16 wc => ∃ (kq : Nat) (x16_24 : Bool), v16 = .bool x16_24 ∧ Aside0 (selvedgelaw15_CutFeeds.j1 kq a0_7 t226 t232 t241 t250 t259 x16_24 a0_0 a0_1 l0_2 a0_4 a0_5 l0_6 = some r) ∧ Aside0 (kq ≤ kj2) ∧ Aside0 (Kd.N k40 40 wc w.heap.size (fun k_ => some k_ ≠ (v242 : Value).ownBlock ∧ k_ ≠ gb223 ∧ k_ ≠ gb224 ∧ k_ ≠ gb225 ∧ k_ ≠ gb235 ∧ k_ ≠ gb244 ∧ k_ ≠ gb253 ∧ k_ ≠ gb262) v233 t232) ∧ Aside0 (Kd.N k40 40 wc w.heap.size (fun k_ => some k_ ≠ (v233 : Value).ownBlock ∧ k_ ≠ gb223 ∧ k_ ≠ gb224 ∧ k_ ≠ gb225 ∧ k_ ≠ gb235 ∧ k_ ≠ gb244 ∧ k_ ≠ gb253 ∧ k_ ≠ gb262) v242 t241) ∧ Aside0 (Kd.V k40 40 wc w.heap.size (fun k_ => some k_ ≠ (v233 : Value).ownBlock ∧ some k_ ≠ (v242 : Value).ownBlock ∧ k_ ≠ gb223 ∧ k_ ≠ gb224 ∧ k_ ≠ gb225 ∧ k_ ≠ gb235 ∧ k_ ≠ gb244 ∧ k_ ≠ gb253 ∧ k_ ≠ gb262) v251 t250) ∧ Aside0 (Kd.V k40 40 wc w.heap.size (fun k_ => some k_ ≠ (v233 : Value).ownBlock ∧ some k_ ≠ (v242 : Value).ownBlock ∧ k_ ≠ gb223 ∧ k_ ≠ gb224 ∧ k_ ≠ gb225 ∧ k_ ≠ gb235 ∧ k_ ≠ gb244 ∧ k_ ≠ gb253 ∧ k_ ≠ gb262) v260 t259) ∧ Aside0 (Kd.V Kd.string 9 wc w.heap.size (fun k_ => some k_ ≠ (v233 : Value).ownBlock ∧ some k_ ≠ (v242 : Value).ownBlock ∧ k_ ≠ gb223 ∧ k_ ≠ gb224 ∧ k_ ≠ gb225 ∧ k_ ≠ gb235 ∧ k_ ≠ gb244 ∧ k_ ≠ gb253 ∧ k_ ≠ gb262) (.slice Ao35 t229.length co35) t229) ∧ Aside0 (Kd.V Kd.string 9 wc w.heap.size (fun k_ => some k_ ≠ (v233 : Value).ownBlock ∧ some k_ ≠ (v242 : Value).ownBlock ∧ k_ ≠ gb223 ∧ k_ ≠ gb224 ∧ k_ ≠ gb225 ∧ k_ ≠ gb235 ∧ k_ ≠ gb244 ∧ k_ ≠ gb253 ∧ k_ ≠ gb262) (.slice Ao45 t238.length co45) t238) ∧ Aside0 (Kd.V Kd.string 9 wc w.heap.size (fun k_ => some k_ ≠ (v233 : Value).ownBlock ∧ some k_ ≠ (v242 : Value).ownBlock ∧ k_ ≠ gb223 ∧ k_ ≠ gb224 ∧ k_ ≠ gb225 ∧ k_ ≠ gb235 ∧ k_ ≠ gb244 ∧ k_ ≠ gb253 ∧ k_ ≠ gb262) (.slice Ao56 t247.length co56) t247) ∧ Aside0 (Kd.V Kd.string 9 wc w.heap.size (fun k_ => some k_ ≠ (v233 : Value).ownBlock ∧ some k_ ≠ (v242 : Value).ownBlock ∧ k_ ≠ gb223 ∧ k_ ≠ gb224 ∧ k_ ≠ gb225 ∧ k_ ≠ gb235 ∧ k_ ≠ gb244 ∧ k_ ≠ gb253 ∧ k_ ≠ gb262) (.slice Ao68 t256.length co68) t256) ∧ Aside0 (wc.heap[gb223]? = some (.cells #[.int .i64 a0_0, .string a0_1, (.slice A0_2 l0_2.length c0_2), (.slice A0_3 l0_3.length c0_3), .int .i64 a0_4, .string a0_5, (.slice A0_6 l0_6.length c0_6), .string a0_7] 42 (0, 0))) ∧ Aside0 (wc.heap[gb224]? = some (.cells #[.int .i64 a0_0, .string a0_1, (.slice A0_2 l0_2.length c0_2)] 39 (0, 0))) ∧ Aside0 (wc.heap[gb225]? = some (.cells #[.int .i64 a0_4, .string a0_5, (.slice A0_6 l0_6.length c0_6)] 40 (0, 0))) ∧ Aside0 (wc.heap[gb235]? = some (.cells #[.int .i64 t227, .string t228, (.slice Ao35 t229.length co35)] 39 (0, 0))) ∧ Aside0 (wc.heap[gb244]? = some (.cells #[.int .i64 t236, .string t237, (.slice Ao45 t238.length co45)] 39 (0, 0))) ∧ Aside0 (wc.heap[gb253]? = some (.cells #[.int .i64 t245, .string t246, (.slice Ao56 t247.length co56)] 39 (0, 0))) ∧ Aside0 (wc.heap[gb262]? = some (.cells #[.int .i64 t254, .string t255, (.slice Ao68 t256.length co68)] 39 (0, 0))) ∧ Aside0 (Below w.heap.size w wc))
    case first =>
     have H := HC25.out
     clear HC25
     replace H := Option.bind_eq_some_iff.mp H
     obtain ⟨t263, A690, H⟩ := H
     replace H : (if t263 = true then ((selvedgeref15_Same.f kj2 t245 t246 t247 t254 t255 t256).bind fun t264 => (selvedgelaw15_CutFeeds.j1 kj2 a0_7 t226 t232 t241 t250 t259 t264 a0_0 a0_1 l0_2 a0_4 a0_5 l0_6)) else (selvedgelaw15_CutFeeds.j1 kj2 a0_7 t226 t232 t241 t250 t259 false a0_0 a0_1 l0_2 a0_4 a0_5 l0_6)) = some r := H
     have A69 := Aside0.mk A690
     clear A690
     by_cases c70 : t263 = true
     ·
      subst c70
      have H1 : ((selvedgeref15_Same.f kj2 t245 t246 t247 t254 t255 t256).bind fun t264 => (selvedgelaw15_CutFeeds.j1 kj2 a0_7 t226 t232 t241 t250 t259 t264 a0_0 a0_1 l0_2 a0_4 a0_5 l0_6)) = some r := by rw [if_pos rfl] at H; exact H
      clear H
      have H := H1
      clear H1
      replace H := Option.bind_eq_some_iff.mp H
      obtain ⟨t264, A710, H⟩ := H
      replace H : (selvedgelaw15_CutFeeds.j1 kj2 a0_7 t226 t232 t241 t250 t259 t264 a0_0 a0_1 l0_2 a0_4 a0_5 l0_6) = some r := H
      have A71 := Aside0.mk A710
      clear A710
      have H' := Aside0.mk H
      clear H
      have hnb72 := NB235_223.out
      have hnc72 := NB223_235.out
      have hnb73 := NB235_224.out
      have hnc73 := NB224_235.out
      have hnb74 := NB235_225.out
      have hnc74 := NB225_235.out
      have hnb75 := NB235_244.out
      have hnc75 := NB244_235.out
      have hnb76 := NB235_253.out
      have hnc76 := NB253_235.out
      have hnb77 := NB235_262.out
      have hnc77 := NB262_235.out
      have hcz78_0 : w60.cell? ⟨gb235, 0, none⟩ = some (.int .i64 t227) := (blk_cell BK235.out 0).trans rfl
      have hcz78_1 : w60.cell? ⟨gb235, 1, none⟩ = some (.string t228) := (blk_cell BK235.out 1).trans rfl
      have hcz78_2 : w60.cell? ⟨gb235, 2, none⟩ = some (.slice Ao35 t229.length co35) := (blk_cell BK235.out 2).trans rfl
      have hfz78_0 := blk_frozen BK235.out 0
      have hfz78_1 := blk_frozen BK235.out 1
      have hfz78_2 := blk_frozen BK235.out 2
      have hnb79 := NB244_223.out
      have hnc79 := NB223_244.out
      have hnb80 := NB244_224.out
      have hnc80 := NB224_244.out
      have hnb81 := NB244_225.out
      have hnc81 := NB225_244.out
      have hnb82 := NB244_253.out
      have hnc82 := NB253_244.out
      have hnb83 := NB244_262.out
      have hnc83 := NB262_244.out
      have hcz84_0 : w60.cell? ⟨gb244, 0, none⟩ = some (.int .i64 t236) := (blk_cell BK244.out 0).trans rfl
      have hcz84_1 : w60.cell? ⟨gb244, 1, none⟩ = some (.string t237) := (blk_cell BK244.out 1).trans rfl
      have hcz84_2 : w60.cell? ⟨gb244, 2, none⟩ = some (.slice Ao45 t238.length co45) := (blk_cell BK244.out 2).trans rfl
      have hfz84_0 := blk_frozen BK244.out 0
      have hfz84_1 := blk_frozen BK244.out 1
      have hfz84_2 := blk_frozen BK244.out 2
      go_wp2_with (first | ((with_reducible refine gate_callee (f := 42) rfl ?_); refine goesL_ (some 61) rfl rfl Try.func42 (by kernel_rfl) rfl #[.agg #[.int .i64 t227, .string t228, .slice Ao35 t229.length co35], .agg #[.int .i64 t236, .string t237, .slice Ao45 t238.length co45]] rfl (by (try simp only [List.map_toArray, List.map_cons, List.map_nil]); first | done | rfl | (simp only [List.length_drop, List.length_take]; rfl)) ?_; (with_reducible refine (selvedgeref15_Same.calls kj2 t227 t228 _ _ t229 t236 t237 _ _ t238 true _ ?side1 ?side2 ?side3 ?side4 A69.out).mono ?_); (case side1 => refine (Kd.V_reads' (e := 9) (base := w.heap.size) (ok := fun k_ => ((some k_ ≠ (v233 : Value).ownBlock ∧ (some k_ ≠ (v242 : Value).ownBlock ∧ (k_ ≠ gb223 ∧ (k_ ≠ gb224 ∧ (k_ ≠ gb225 ∧ (k_ ≠ gb235 ∧ (k_ ≠ gb244 ∧ k_ ≠ gb253))))))) ∧ k_ ≠ gb262)) (n := t229.length) (c := co35) ?_).2.2; exact (Kd.pV (Kd.V_mono (Kd.V_far (p := ⟨gb262, 2, none⟩) (Kd.V_far (p := ⟨gb262, 1, none⟩) (Kd.V_far (p := ⟨gb262, 0, none⟩) (Kd.V_mono HO231.out (fun k_ hk => (⟨hk, hk.2⟩ : _ ∧ k_ ≠ gb262))) (fun _ hk => hk.2) (.int .i64 t254)) (fun _ hk => hk.2) (.string t255)) (fun _ hk => hk.2) (.slice Ao68 t256.length co68)) (fun _ h_ => h_.1)))); (case side2 => exact (Kd.V_reads' HO231.out).2.1); (case side3 => refine (Kd.V_reads' (e := 9) (base := w.heap.size) (ok := fun k_ => ((some k_ ≠ (v233 : Value).ownBlock ∧ (some k_ ≠ (v242 : Value).ownBlock ∧ (k_ ≠ gb223 ∧ (k_ ≠ gb224 ∧ (k_ ≠ gb225 ∧ (k_ ≠ gb235 ∧ (k_ ≠ gb244 ∧ k_ ≠ gb253))))))) ∧ k_ ≠ gb262)) (n := t238.length) (c := co45) ?_).2.2; exact (Kd.pV (Kd.V_mono (Kd.V_far (p := ⟨gb262, 2, none⟩) (Kd.V_far (p := ⟨gb262, 1, none⟩) (Kd.V_far (p := ⟨gb262, 0, none⟩) (Kd.V_mono HO240.out (fun k_ hk => (⟨hk, hk.2⟩ : _ ∧ k_ ≠ gb262))) (fun _ hk => hk.2) (.int .i64 t254)) (fun _ hk => hk.2) (.string t255)) (fun _ hk => hk.2) (.slice Ao68 t256.length co68)) (fun _ h_ => h_.1)))); (case side4 => exact (Kd.V_reads' HO240.out).2.1); rintro e w85 ⟨rfl, hb⟩; refine ⟨_, rfl, ?_⟩; have n0_ := Aside0.mk (Kd.V_below (Kd.pV (Kd.V_mono (Kd.V_far (p := ⟨gb262, 2, none⟩) (Kd.V_far (p := ⟨gb262, 1, none⟩) (Kd.V_far (p := ⟨gb262, 0, none⟩) (Kd.V_mono HO231.out (fun k_ hk => (⟨hk, hk.2⟩ : _ ∧ k_ ≠ gb262))) (fun _ hk => hk.2) (.int .i64 t254)) (fun _ hk => hk.2) (.string t255)) (fun _ hk => hk.2) (.slice Ao68 t256.length co68)) (fun _ h_ => h_.1))) hb); have n1_ := Aside0.mk (Kd.N_below (Kd.pN (Kd.N_mono (Kd.N_far (p := ⟨gb262, 2, none⟩) (Kd.N_far (p := ⟨gb262, 1, none⟩) (Kd.N_far (p := ⟨gb262, 0, none⟩) (Kd.N_mono HO234.out (fun k_ hk => (⟨hk, hk.2⟩ : _ ∧ k_ ≠ gb262))) (fun _ hk => hk.2) (.int .i64 t254)) (fun _ hk => hk.2) (.string t255)) (fun _ hk => hk.2) (.slice Ao68 t256.length co68)) (fun _ h_ => h_.1))) hb); have n2_ := Aside0.mk (Kd.V_below (Kd.pV (Kd.V_mono (Kd.V_far (p := ⟨gb262, 2, none⟩) (Kd.V_far (p := ⟨gb262, 1, none⟩) (Kd.V_far (p := ⟨gb262, 0, none⟩) (Kd.V_mono HO240.out (fun k_ hk => (⟨hk, hk.2⟩ : _ ∧ k_ ≠ gb262))) (fun _ hk => hk.2) (.int .i64 t254)) (fun _ hk => hk.2) (.string t255)) (fun _ hk => hk.2) (.slice Ao68 t256.length co68)) (fun _ h_ => h_.1))) hb); have n3_ := Aside0.mk (Kd.N_below (Kd.pN (Kd.N_mono (Kd.N_far (p := ⟨gb262, 2, none⟩) (Kd.N_far (p := ⟨gb262, 1, none⟩) (Kd.N_far (p := ⟨gb262, 0, none⟩) (Kd.N_mono HO243.out (fun k_ hk => (⟨hk, hk.2⟩ : _ ∧ k_ ≠ gb262))) (fun _ hk => hk.2) (.int .i64 t254)) (fun _ hk => hk.2) (.string t255)) (fun _ hk => hk.2) (.slice Ao68 t256.length co68)) (fun _ h_ => h_.1))) hb); have n4_ := Aside0.mk (Kd.V_below (Kd.pV (Kd.V_mono (Kd.V_far (p := ⟨gb262, 2, none⟩) (Kd.V_far (p := ⟨gb262, 1, none⟩) (Kd.V_far (p := ⟨gb262, 0, none⟩) (Kd.V_mono HO249.out (fun k_ hk => (⟨hk, hk.2⟩ : _ ∧ k_ ≠ gb262))) (fun _ hk => hk.2) (.int .i64 t254)) (fun _ hk => hk.2) (.string t255)) (fun _ hk => hk.2) (.slice Ao68 t256.length co68)) (fun _ h_ => h_.1))) hb); have n5_ := Aside0.mk (Kd.V_below (Kd.pV (Kd.V_mono (Kd.V_far (p := ⟨gb262, 2, none⟩) (Kd.V_far (p := ⟨gb262, 1, none⟩) (Kd.V_far (p := ⟨gb262, 0, none⟩) (Kd.V_mono HO252.out (fun k_ hk => (⟨hk, hk.2⟩ : _ ∧ k_ ≠ gb262))) (fun _ hk => hk.2) (.int .i64 t254)) (fun _ hk => hk.2) (.string t255)) (fun _ hk => hk.2) (.slice Ao68 t256.length co68)) (fun _ h_ => h_.1))) hb); have n6_ := Aside0.mk (Kd.V_below (Kd.pV (Kd.V_mono (Kd.V_far (p := ⟨gb262, 2, none⟩) (Kd.V_far (p := ⟨gb262, 1, none⟩) (Kd.V_far (p := ⟨gb262, 0, none⟩) (Kd.V_mono HO258.out (fun k_ hk => (⟨hk, hk.2⟩ : _ ∧ k_ ≠ gb262))) (fun _ hk => hk.2) (.int .i64 t254)) (fun _ hk => hk.2) (.string t255)) (fun _ hk => hk.2) (.slice Ao68 t256.length co68)) (fun _ h_ => h_.1))) hb); have n7_ := Aside0.mk (Kd.V_below (Kd.pV (Kd.V_mono (Kd.V_far (p := ⟨gb262, 2, none⟩) (Kd.V_far (p := ⟨gb262, 1, none⟩) (Kd.V_far (p := ⟨gb262, 0, none⟩) (Kd.V_mono HO261.out (fun k_ hk => (⟨hk, hk.2⟩ : _ ∧ k_ ≠ gb262))) (fun _ hk => hk.2) (.int .i64 t254)) (fun _ hk => hk.2) (.string t255)) (fun _ hk => hk.2) (.slice Ao68 t256.length co68)) (fun _ h_ => h_.1))) hb); have n8_ := Aside0.mk (blk_below (g := gb223) (o := .cells #[.int .i64 a0_0, .string a0_1, .slice A0_2 l0_2.length c0_2, .slice A0_3 l0_3.length c0_3, .int .i64 a0_4, .string a0_5, .slice A0_6 l0_6.length c0_6, .string a0_7] 42 (0, 0)) (by (with_reducible repeat (first | refine blk_drewN ?_ _ | refine blk_drew ?_ | refine blk_alloc ?_ _)); refine blk_far ?_ NB223_262.out _; (with_reducible repeat (first | refine blk_drewN ?_ _ | refine blk_drew ?_ | refine blk_alloc ?_ _)); refine blk_far ?_ NB223_262.out _; (with_reducible repeat (first | refine blk_drewN ?_ _ | refine blk_drew ?_ | refine blk_alloc ?_ _)); refine blk_far ?_ NB223_262.out _; (with_reducible repeat (first | refine blk_drewN ?_ _ | refine blk_drew ?_ | refine blk_alloc ?_ _)); exact BK223.out) hb); have n9_ := Aside0.mk (blk_below (g := gb224) (o := .cells #[.int .i64 a0_0, .string a0_1, .slice A0_2 l0_2.length c0_2] 39 (0, 0)) (by (with_reducible repeat (first | refine blk_drewN ?_ _ | refine blk_drew ?_ | refine blk_alloc ?_ _)); refine blk_far ?_ NB224_262.out _; (with_reducible repeat (first | refine blk_drewN ?_ _ | refine blk_drew ?_ | refine blk_alloc ?_ _)); refine blk_far ?_ NB224_262.out _; (with_reducible repeat (first | refine blk_drewN ?_ _ | refine blk_drew ?_ | refine blk_alloc ?_ _)); refine blk_far ?_ NB224_262.out _; (with_reducible repeat (first | refine blk_drewN ?_ _ | refine blk_drew ?_ | refine blk_alloc ?_ _)); exact BK224.out) hb); have n10_ := Aside0.mk (blk_below (g := gb225) (o := .cells #[.int .i64 a0_4, .string a0_5, .slice A0_6 l0_6.length c0_6] 40 (0, 0)) (by (with_reducible repeat (first | refine blk_drewN ?_ _ | refine blk_drew ?_ | refine blk_alloc ?_ _)); refine blk_far ?_ NB225_262.out _; (with_reducible repeat (first | refine blk_drewN ?_ _ | refine blk_drew ?_ | refine blk_alloc ?_ _)); refine blk_far ?_ NB225_262.out _; (with_reducible repeat (first | refine blk_drewN ?_ _ | refine blk_drew ?_ | refine blk_alloc ?_ _)); refine blk_far ?_ NB225_262.out _; (with_reducible repeat (first | refine blk_drewN ?_ _ | refine blk_drew ?_ | refine blk_alloc ?_ _)); exact BK225.out) hb); have n11_ := Aside0.mk (blk_below (g := gb235) (o := .cells #[.int .i64 t227, .string t228, .slice Ao35 t229.length co35] 39 (0, 0)) (by (with_reducible repeat (first | refine blk_drewN ?_ _ | refine blk_drew ?_ | refine blk_alloc ?_ _)); refine blk_far ?_ NB235_262.out _; (with_reducible repeat (first | refine blk_drewN ?_ _ | refine blk_drew ?_ | refine blk_alloc ?_ _)); refine blk_far ?_ NB235_262.out _; (with_reducible repeat (first | refine blk_drewN ?_ _ | refine blk_drew ?_ | refine blk_alloc ?_ _)); refine blk_far ?_ NB235_262.out _; (with_reducible repeat (first | refine blk_drewN ?_ _ | refine blk_drew ?_ | refine blk_alloc ?_ _)); exact BK235.out) hb); have n12_ := Aside0.mk (blk_below (g := gb244) (o := .cells #[.int .i64 t236, .string t237, .slice Ao45 t238.length co45] 39 (0, 0)) (by (with_reducible repeat (first | refine blk_drewN ?_ _ | refine blk_drew ?_ | refine blk_alloc ?_ _)); refine blk_far ?_ NB244_262.out _; (with_reducible repeat (first | refine blk_drewN ?_ _ | refine blk_drew ?_ | refine blk_alloc ?_ _)); refine blk_far ?_ NB244_262.out _; (with_reducible repeat (first | refine blk_drewN ?_ _ | refine blk_drew ?_ | refine blk_alloc ?_ _)); refine blk_far ?_ NB244_262.out _; (with_reducible repeat (first | refine blk_drewN ?_ _ | refine blk_drew ?_ | refine blk_alloc ?_ _)); exact BK244.out) hb); have n13_ := Aside0.mk (blk_below (g := gb253) (o := .cells #[.int .i64 t245, .string t246, .slice Ao56 t247.length co56] 39 (0, 0)) (by (with_reducible repeat (first | refine blk_drewN ?_ _ | refine blk_drew ?_ | refine blk_alloc ?_ _)); refine blk_far ?_ NB253_262.out _; (with_reducible repeat (first | refine blk_drewN ?_ _ | refine blk_drew ?_ | refine blk_alloc ?_ _)); refine blk_far ?_ NB253_262.out _; (with_reducible repeat (first | refine blk_drewN ?_ _ | refine blk_drew ?_ | refine blk_alloc ?_ _)); refine blk_far ?_ NB253_262.out _; (with_reducible repeat (first | refine blk_drewN ?_ _ | refine blk_drew ?_ | refine blk_alloc ?_ _)); exact BK253.out) hb); have n14_ := Aside0.mk (blk_below (g := gb262) (o := .cells #[.int .i64 t254, .string t255, .slice Ao68 t256.length co68] 39 (0, 0)) (by (with_reducible repeat (first | refine blk_drewN ?_ _ | refine blk_drew ?_ | refine blk_alloc ?_ _)); refine blk_put (cs := #[.int .i64 t254, .string t255, .slice none 0 0]) ?_ 2 _ rfl; (with_reducible repeat (first | refine blk_drewN ?_ _ | refine blk_drew ?_ | refine blk_alloc ?_ _)); refine blk_put (cs := #[.int .i64 t254, .string (⟨#[]⟩ : ByteArray), .slice none 0 0]) ?_ 1 _ rfl; (with_reducible repeat (first | refine blk_drewN ?_ _ | refine blk_drew ?_ | refine blk_alloc ?_ _)); refine blk_put (cs := #[.int .i64 0, .string (⟨#[]⟩ : ByteArray), .slice none 0 0]) ?_ 0 _ rfl; (with_reducible repeat (first | refine blk_drewN ?_ _ | refine blk_drew ?_ | refine blk_alloc ?_ _)); exact BK262.out) hb); have n15_ := Aside0.mk (below_step (by repeat (first | (with_reducible first | exact HB.out | apply below_alloc | apply pw_below_drewN | apply below_drew1 | refine below_set ?_ GE223.out | refine below_set ?_ GE224.out | refine below_set ?_ GE225.out | refine below_set ?_ GE235.out | refine below_set ?_ GE244.out | refine below_set ?_ GE253.out | refine below_set ?_ GE262.out) | exact HB.out)) hb); clear HO231; clear HO234; clear HO240; clear HO243; clear HO249; clear HO252; clear HO258; clear HO261; clear BK223; clear BK224; clear BK225; clear BK235; clear BK244; clear BK253; clear BK262; clear HB; have HO231 := n0_; have HO234 := n1_; have HO240 := n2_; have HO243 := n3_; have HO249 := n4_; have HO252 := n5_; have HO258 := n6_; have HO261 := n7_; have BK223 := n8_; have BK224 := n9_; have BK225 := n10_; have BK235 := n11_; have BK244 := n12_; have BK253 := n13_; have BK262 := n14_; have HB := n15_; clear n0_ n1_ n2_ n3_ n4_ n5_ n6_ n7_ n8_ n9_ n10_ n11_ n12_ n13_ n14_ n15_; (try clear hb); (try clear hb2); (try clear hk); (try clear hi); have hnb86 := NB253_223.out; have hnc86 := NB223_253.out; have hnb87 := NB253_224.out; have hnc87 := NB224_253.out; have hnb88 := NB253_225.out; have hnc88 := NB225_253.out; have hnb89 := NB253_262.out; have hnc89 := NB262_253.out; have hcz90_0 : w85.cell? ⟨gb253, 0, none⟩ = some (.int .i64 t245) := (blk_cell BK253.out 0).trans rfl; have hcz90_1 : w85.cell? ⟨gb253, 1, none⟩ = some (.string t246) := (blk_cell BK253.out 1).trans rfl; have hcz90_2 : w85.cell? ⟨gb253, 2, none⟩ = some (.slice Ao56 t247.length co56) := (blk_cell BK253.out 2).trans rfl; have hfz90_0 := blk_frozen BK253.out 0; have hfz90_1 := blk_frozen BK253.out 1; have hfz90_2 := blk_frozen BK253.out 2; have hnb91 := NB262_223.out; have hnc91 := NB223_262.out; have hnb92 := NB262_224.out; have hnc92 := NB224_262.out; have hnb93 := NB262_225.out; have hnc93 := NB225_262.out; have hcz94_0 : w85.cell? ⟨gb262, 0, none⟩ = some (.int .i64 t254) := (blk_cell BK262.out 0).trans rfl; have hcz94_1 : w85.cell? ⟨gb262, 1, none⟩ = some (.string t255) := (blk_cell BK262.out 1).trans rfl; have hcz94_2 : w85.cell? ⟨gb262, 2, none⟩ = some (.slice Ao68 t256.length co68) := (blk_cell BK262.out 2).trans rfl; have hfz94_0 := blk_frozen BK262.out 0; have hfz94_1 := blk_frozen BK262.out 1; have hfz94_2 := blk_frozen BK262.out 2) | (go_at_call 42; (with_reducible refine (selvedgeref15_Same.calls kj2 t245 t246 _ _ t247 t254 t255 _ _ t256 t264 _ ?side1 ?side2 ?side3 ?side4 A71.out).mono ?_); (case side1 => repeat (first | exact (Kd.V_reads' HO249.out).2.2 | (with_reducible refine Kd.C_alloc ?_ _) | (with_reducible refine Kd.C_drewN ?_ _) | (with_reducible refine Kd.C_drew ?_))); (case side2 => exact (Kd.V_reads' HO249.out).2.1); (case side3 => repeat (first | exact (Kd.V_reads' HO258.out).2.2 | (with_reducible refine Kd.C_alloc ?_ _) | (with_reducible refine Kd.C_drewN ?_ _) | (with_reducible refine Kd.C_drew ?_))); (case side4 => exact (Kd.V_reads' HO258.out).2.1); rintro e w95 ⟨rfl, hb⟩; have n0_ := Aside0.mk (Kd.V_below (Kd.pV HO231.out) hb); have n1_ := Aside0.mk (Kd.N_below (Kd.pN HO234.out) hb); have n2_ := Aside0.mk (Kd.V_below (Kd.pV HO240.out) hb); have n3_ := Aside0.mk (Kd.N_below (Kd.pN HO243.out) hb); have n4_ := Aside0.mk (Kd.V_below (Kd.pV HO249.out) hb); have n5_ := Aside0.mk (Kd.V_below (Kd.pV HO252.out) hb); have n6_ := Aside0.mk (Kd.V_below (Kd.pV HO258.out) hb); have n7_ := Aside0.mk (Kd.V_below (Kd.pV HO261.out) hb); have n8_ := Aside0.mk (blk_below (g := gb223) (o := .cells #[.int .i64 a0_0, .string a0_1, .slice A0_2 l0_2.length c0_2, .slice A0_3 l0_3.length c0_3, .int .i64 a0_4, .string a0_5, .slice A0_6 l0_6.length c0_6, .string a0_7] 42 (0, 0)) (pB BK223.out) hb); have n9_ := Aside0.mk (blk_below (g := gb224) (o := .cells #[.int .i64 a0_0, .string a0_1, .slice A0_2 l0_2.length c0_2] 39 (0, 0)) (pB BK224.out) hb); have n10_ := Aside0.mk (blk_below (g := gb225) (o := .cells #[.int .i64 a0_4, .string a0_5, .slice A0_6 l0_6.length c0_6] 40 (0, 0)) (pB BK225.out) hb); have n11_ := Aside0.mk (blk_below (g := gb235) (o := .cells #[.int .i64 t227, .string t228, .slice Ao35 t229.length co35] 39 (0, 0)) (pB BK235.out) hb); have n12_ := Aside0.mk (blk_below (g := gb244) (o := .cells #[.int .i64 t236, .string t237, .slice Ao45 t238.length co45] 39 (0, 0)) (pB BK244.out) hb); have n13_ := Aside0.mk (blk_below (g := gb253) (o := .cells #[.int .i64 t245, .string t246, .slice Ao56 t247.length co56] 39 (0, 0)) (pB BK253.out) hb); have n14_ := Aside0.mk (blk_below (g := gb262) (o := .cells #[.int .i64 t254, .string t255, .slice Ao68 t256.length co68] 39 (0, 0)) (pB BK262.out) hb); have n15_ := Aside0.mk (below_step (by repeat (first | (with_reducible first | exact HB.out | apply below_alloc | apply pw_below_drewN | apply below_drew1 | refine below_set ?_ GE223.out | refine below_set ?_ GE224.out | refine below_set ?_ GE225.out | refine below_set ?_ GE235.out | refine below_set ?_ GE244.out | refine below_set ?_ GE253.out | refine below_set ?_ GE262.out) | exact HB.out)) hb); clear HO231; clear HO234; clear HO240; clear HO243; clear HO249; clear HO252; clear HO258; clear HO261; clear BK223; clear BK224; clear BK225; clear BK235; clear BK244; clear BK253; clear BK262; clear HB; have HO231 := n0_; have HO234 := n1_; have HO240 := n2_; have HO243 := n3_; have HO249 := n4_; have HO252 := n5_; have HO258 := n6_; have HO261 := n7_; have BK223 := n8_; have BK224 := n9_; have BK225 := n10_; have BK235 := n11_; have BK244 := n12_; have BK253 := n13_; have BK262 := n14_; have HB := n15_; clear n0_ n1_ n2_ n3_ n4_ n5_ n6_ n7_ n8_ n9_ n10_ n11_ n12_ n13_ n14_ n15_; (try clear hb); (try clear hb2); (try clear hk); (try clear hi)))
      go_meet
      case rel => exact ⟨_, (t264), (by first | rfl | (simp; done) | (simp [*]; done)), H', ⟨by have := HJ2.out; first | omega | exact Nat.le_refl _⟩, ⟨by (with_reducible repeat (first | apply Kd.N_alloc | apply Kd.N_drewN | apply Kd.N_drew)); exact Kd.N_mono HO234.out (fun _ hk => ⟨hk.1.1, ⟨hk.1.2.1, ⟨hk.1.2.2.1, ⟨hk.1.2.2.2.1, ⟨hk.1.2.2.2.2.1, ⟨hk.1.2.2.2.2.2.1, ⟨hk.1.2.2.2.2.2.2, hk.2⟩⟩⟩⟩⟩⟩⟩)⟩, ⟨by (with_reducible repeat (first | apply Kd.N_alloc | apply Kd.N_drewN | apply Kd.N_drew)); exact Kd.N_mono HO243.out (fun _ hk => ⟨hk.1.1, ⟨hk.1.2.1, ⟨hk.1.2.2.1, ⟨hk.1.2.2.2.1, ⟨hk.1.2.2.2.2.1, ⟨hk.1.2.2.2.2.2.1, ⟨hk.1.2.2.2.2.2.2, hk.2⟩⟩⟩⟩⟩⟩⟩)⟩, ⟨by (with_reducible repeat (first | apply Kd.V_alloc | apply Kd.V_drewN | apply Kd.V_drew)); exact Kd.V_mono HO252.out (fun _ hk => ⟨hk.1.1, ⟨hk.1.2.1, ⟨hk.1.2.2.1, ⟨hk.1.2.2.2.1, ⟨hk.1.2.2.2.2.1, ⟨hk.1.2.2.2.2.2.1, ⟨hk.1.2.2.2.2.2.2.1, ⟨hk.1.2.2.2.2.2.2.2, hk.2⟩⟩⟩⟩⟩⟩⟩⟩)⟩, ⟨by (with_reducible repeat (first | apply Kd.V_alloc | apply Kd.V_drewN | apply Kd.V_drew)); exact Kd.V_mono HO261.out (fun _ hk => ⟨hk.1.1, ⟨hk.1.2.1, ⟨hk.1.2.2.1, ⟨hk.1.2.2.2.1, ⟨hk.1.2.2.2.2.1, ⟨hk.1.2.2.2.2.2.1, ⟨hk.1.2.2.2.2.2.2.1, ⟨hk.1.2.2.2.2.2.2.2, hk.2⟩⟩⟩⟩⟩⟩⟩⟩)⟩, ⟨by (with_reducible repeat (first | apply Kd.V_alloc | apply Kd.V_drewN | apply Kd.V_drew)); exact Kd.V_mono HO231.out (fun _ hk => ⟨hk.1.1, ⟨hk.1.2.1, ⟨hk.1.2.2.1, ⟨hk.1.2.2.2.1, ⟨hk.1.2.2.2.2.1, ⟨hk.1.2.2.2.2.2.1, ⟨hk.1.2.2.2.2.2.2.1, ⟨hk.1.2.2.2.2.2.2.2, hk.2⟩⟩⟩⟩⟩⟩⟩⟩)⟩, ⟨by (with_reducible repeat (first | apply Kd.V_alloc | apply Kd.V_drewN | apply Kd.V_drew)); exact Kd.V_mono HO240.out (fun _ hk => ⟨hk.1.1, ⟨hk.1.2.1, ⟨hk.1.2.2.1, ⟨hk.1.2.2.2.1, ⟨hk.1.2.2.2.2.1, ⟨hk.1.2.2.2.2.2.1, ⟨hk.1.2.2.2.2.2.2.1, ⟨hk.1.2.2.2.2.2.2.2, hk.2⟩⟩⟩⟩⟩⟩⟩⟩)⟩, ⟨by (with_reducible repeat (first | apply Kd.V_alloc | apply Kd.V_drewN | apply Kd.V_drew)); exact Kd.V_mono HO249.out (fun _ hk => ⟨hk.1.1, ⟨hk.1.2.1, ⟨hk.1.2.2.1, ⟨hk.1.2.2.2.1, ⟨hk.1.2.2.2.2.1, ⟨hk.1.2.2.2.2.2.1, ⟨hk.1.2.2.2.2.2.2.1, ⟨hk.1.2.2.2.2.2.2.2, hk.2⟩⟩⟩⟩⟩⟩⟩⟩)⟩, ⟨by (with_reducible repeat (first | apply Kd.V_alloc | apply Kd.V_drewN | apply Kd.V_drew)); exact Kd.V_mono HO258.out (fun _ hk => ⟨hk.1.1, ⟨hk.1.2.1, ⟨hk.1.2.2.1, ⟨hk.1.2.2.2.1, ⟨hk.1.2.2.2.2.1, ⟨hk.1.2.2.2.2.2.1, ⟨hk.1.2.2.2.2.2.2.1, ⟨hk.1.2.2.2.2.2.2.2, hk.2⟩⟩⟩⟩⟩⟩⟩⟩)⟩, ⟨by (with_reducible repeat (first | refine blk_drewN ?_ _ | refine blk_drew ?_ | refine blk_alloc ?_ _)); exact BK223.out⟩, ⟨by (with_reducible repeat (first | refine blk_drewN ?_ _ | refine blk_drew ?_ | refine blk_alloc ?_ _)); exact BK224.out⟩, ⟨by (with_reducible repeat (first | refine blk_drewN ?_ _ | refine blk_drew ?_ | refine blk_alloc ?_ _)); exact BK225.out⟩, ⟨by (with_reducible repeat (first | refine blk_drewN ?_ _ | refine blk_drew ?_ | refine blk_alloc ?_ _)); exact BK235.out⟩, ⟨by (with_reducible repeat (first | refine blk_drewN ?_ _ | refine blk_drew ?_ | refine blk_alloc ?_ _)); exact BK244.out⟩, ⟨by (with_reducible repeat (first | refine blk_drewN ?_ _ | refine blk_drew ?_ | refine blk_alloc ?_ _)); exact BK253.out⟩, ⟨by (with_reducible repeat (first | refine blk_drewN ?_ _ | refine blk_drew ?_ | refine blk_alloc ?_ _)); exact BK262.out⟩, ⟨by repeat (first | (with_reducible first | exact HB.out | apply below_alloc | apply pw_below_drewN | apply below_drew1 | refine below_set ?_ GE223.out | refine below_set ?_ GE224.out | refine below_set ?_ GE225.out | refine below_set ?_ GE235.out | refine below_set ?_ GE244.out | refine below_set ?_ GE253.out | refine below_set ?_ GE262.out) | exact HB.out)⟩⟩
     ·
      replace c70 := Bool.eq_false_iff.mpr c70
      subst c70
      have H1 : (selvedgelaw15_CutFeeds.j1 kj2 a0_7 t226 t232 t241 t250 t259 false a0_0 a0_1 l0_2 a0_4 a0_5 l0_6) = some r := by rw [if_neg (show ¬ (false = true) by decide)] at H; exact H
      clear H
      have H := H1
      clear H1
      have H' := Aside0.mk H
      clear H
      have hnb96 := NB235_223.out
      have hnc96 := NB223_235.out
      have hnb97 := NB235_224.out
      have hnc97 := NB224_235.out
      have hnb98 := NB235_225.out
      have hnc98 := NB225_235.out
      have hnb99 := NB235_244.out
      have hnc99 := NB244_235.out
      have hnb100 := NB235_253.out
      have hnc100 := NB253_235.out
      have hnb101 := NB235_262.out
      have hnc101 := NB262_235.out
      have hcz102_0 : w60.cell? ⟨gb235, 0, none⟩ = some (.int .i64 t227) := (blk_cell BK235.out 0).trans rfl
      have hcz102_1 : w60.cell? ⟨gb235, 1, none⟩ = some (.string t228) := (blk_cell BK235.out 1).trans rfl
      have hcz102_2 : w60.cell? ⟨gb235, 2, none⟩ = some (.slice Ao35 t229.length co35) := (blk_cell BK235.out 2).trans rfl
      have hfz102_0 := blk_frozen BK235.out 0
      have hfz102_1 := blk_frozen BK235.out 1
      have hfz102_2 := blk_frozen BK235.out 2
      have hnb103 := NB244_223.out
      have hnc103 := NB223_244.out
      have hnb104 := NB244_224.out
      have hnc104 := NB224_244.out
      have hnb105 := NB244_225.out
      have hnc105 := NB225_244.out
      have hnb106 := NB244_253.out
      have hnc106 := NB253_244.out
      have hnb107 := NB244_262.out
      have hnc107 := NB262_244.out
      have hcz108_0 : w60.cell? ⟨gb244, 0, none⟩ = some (.int .i64 t236) := (blk_cell BK244.out 0).trans rfl
      have hcz108_1 : w60.cell? ⟨gb244, 1, none⟩ = some (.string t237) := (blk_cell BK244.out 1).trans rfl
      have hcz108_2 : w60.cell? ⟨gb244, 2, none⟩ = some (.slice Ao45 t238.length co45) := (blk_cell BK244.out 2).trans rfl
      have hfz108_0 := blk_frozen BK244.out 0
      have hfz108_1 := blk_frozen BK244.out 1
      have hfz108_2 := blk_frozen BK244.out 2
      go_wp2_with (first | ((with_reducible refine gate_callee (f := 42) rfl ?_); refine goesL_ (some 61) rfl rfl Try.func42 (by kernel_rfl) rfl #[.agg #[.int .i64 t227, .string t228, .slice Ao35 t229.length co35], .agg #[.int .i64 t236, .string t237, .slice Ao45 t238.length co45]] rfl (by (try simp only [List.map_toArray, List.map_cons, List.map_nil]); first | done | rfl | (simp only [List.length_drop, List.length_take]; rfl)) ?_; (with_reducible refine (selvedgeref15_Same.calls kj2 t227 t228 _ _ t229 t236 t237 _ _ t238 false _ ?side1 ?side2 ?side3 ?side4 A69.out).mono ?_); (case side1 => refine (Kd.V_reads' (e := 9) (base := w.heap.size) (ok := fun k_ => ((some k_ ≠ (v233 : Value).ownBlock ∧ (some k_ ≠ (v242 : Value).ownBlock ∧ (k_ ≠ gb223 ∧ (k_ ≠ gb224 ∧ (k_ ≠ gb225 ∧ (k_ ≠ gb235 ∧ (k_ ≠ gb244 ∧ k_ ≠ gb253))))))) ∧ k_ ≠ gb262)) (n := t229.length) (c := co35) ?_).2.2; exact (Kd.pV (Kd.V_mono (Kd.V_far (p := ⟨gb262, 2, none⟩) (Kd.V_far (p := ⟨gb262, 1, none⟩) (Kd.V_far (p := ⟨gb262, 0, none⟩) (Kd.V_mono HO231.out (fun k_ hk => (⟨hk, hk.2⟩ : _ ∧ k_ ≠ gb262))) (fun _ hk => hk.2) (.int .i64 t254)) (fun _ hk => hk.2) (.string t255)) (fun _ hk => hk.2) (.slice Ao68 t256.length co68)) (fun _ h_ => h_.1)))); (case side2 => exact (Kd.V_reads' HO231.out).2.1); (case side3 => refine (Kd.V_reads' (e := 9) (base := w.heap.size) (ok := fun k_ => ((some k_ ≠ (v233 : Value).ownBlock ∧ (some k_ ≠ (v242 : Value).ownBlock ∧ (k_ ≠ gb223 ∧ (k_ ≠ gb224 ∧ (k_ ≠ gb225 ∧ (k_ ≠ gb235 ∧ (k_ ≠ gb244 ∧ k_ ≠ gb253))))))) ∧ k_ ≠ gb262)) (n := t238.length) (c := co45) ?_).2.2; exact (Kd.pV (Kd.V_mono (Kd.V_far (p := ⟨gb262, 2, none⟩) (Kd.V_far (p := ⟨gb262, 1, none⟩) (Kd.V_far (p := ⟨gb262, 0, none⟩) (Kd.V_mono HO240.out (fun k_ hk => (⟨hk, hk.2⟩ : _ ∧ k_ ≠ gb262))) (fun _ hk => hk.2) (.int .i64 t254)) (fun _ hk => hk.2) (.string t255)) (fun _ hk => hk.2) (.slice Ao68 t256.length co68)) (fun _ h_ => h_.1)))); (case side4 => exact (Kd.V_reads' HO240.out).2.1); rintro e w109 ⟨rfl, hb⟩; refine ⟨_, rfl, ?_⟩; have n0_ := Aside0.mk (Kd.V_below (Kd.pV (Kd.V_mono (Kd.V_far (p := ⟨gb262, 2, none⟩) (Kd.V_far (p := ⟨gb262, 1, none⟩) (Kd.V_far (p := ⟨gb262, 0, none⟩) (Kd.V_mono HO231.out (fun k_ hk => (⟨hk, hk.2⟩ : _ ∧ k_ ≠ gb262))) (fun _ hk => hk.2) (.int .i64 t254)) (fun _ hk => hk.2) (.string t255)) (fun _ hk => hk.2) (.slice Ao68 t256.length co68)) (fun _ h_ => h_.1))) hb); have n1_ := Aside0.mk (Kd.N_below (Kd.pN (Kd.N_mono (Kd.N_far (p := ⟨gb262, 2, none⟩) (Kd.N_far (p := ⟨gb262, 1, none⟩) (Kd.N_far (p := ⟨gb262, 0, none⟩) (Kd.N_mono HO234.out (fun k_ hk => (⟨hk, hk.2⟩ : _ ∧ k_ ≠ gb262))) (fun _ hk => hk.2) (.int .i64 t254)) (fun _ hk => hk.2) (.string t255)) (fun _ hk => hk.2) (.slice Ao68 t256.length co68)) (fun _ h_ => h_.1))) hb); have n2_ := Aside0.mk (Kd.V_below (Kd.pV (Kd.V_mono (Kd.V_far (p := ⟨gb262, 2, none⟩) (Kd.V_far (p := ⟨gb262, 1, none⟩) (Kd.V_far (p := ⟨gb262, 0, none⟩) (Kd.V_mono HO240.out (fun k_ hk => (⟨hk, hk.2⟩ : _ ∧ k_ ≠ gb262))) (fun _ hk => hk.2) (.int .i64 t254)) (fun _ hk => hk.2) (.string t255)) (fun _ hk => hk.2) (.slice Ao68 t256.length co68)) (fun _ h_ => h_.1))) hb); have n3_ := Aside0.mk (Kd.N_below (Kd.pN (Kd.N_mono (Kd.N_far (p := ⟨gb262, 2, none⟩) (Kd.N_far (p := ⟨gb262, 1, none⟩) (Kd.N_far (p := ⟨gb262, 0, none⟩) (Kd.N_mono HO243.out (fun k_ hk => (⟨hk, hk.2⟩ : _ ∧ k_ ≠ gb262))) (fun _ hk => hk.2) (.int .i64 t254)) (fun _ hk => hk.2) (.string t255)) (fun _ hk => hk.2) (.slice Ao68 t256.length co68)) (fun _ h_ => h_.1))) hb); have n4_ := Aside0.mk (Kd.V_below (Kd.pV (Kd.V_mono (Kd.V_far (p := ⟨gb262, 2, none⟩) (Kd.V_far (p := ⟨gb262, 1, none⟩) (Kd.V_far (p := ⟨gb262, 0, none⟩) (Kd.V_mono HO249.out (fun k_ hk => (⟨hk, hk.2⟩ : _ ∧ k_ ≠ gb262))) (fun _ hk => hk.2) (.int .i64 t254)) (fun _ hk => hk.2) (.string t255)) (fun _ hk => hk.2) (.slice Ao68 t256.length co68)) (fun _ h_ => h_.1))) hb); have n5_ := Aside0.mk (Kd.V_below (Kd.pV (Kd.V_mono (Kd.V_far (p := ⟨gb262, 2, none⟩) (Kd.V_far (p := ⟨gb262, 1, none⟩) (Kd.V_far (p := ⟨gb262, 0, none⟩) (Kd.V_mono HO252.out (fun k_ hk => (⟨hk, hk.2⟩ : _ ∧ k_ ≠ gb262))) (fun _ hk => hk.2) (.int .i64 t254)) (fun _ hk => hk.2) (.string t255)) (fun _ hk => hk.2) (.slice Ao68 t256.length co68)) (fun _ h_ => h_.1))) hb); have n6_ := Aside0.mk (Kd.V_below (Kd.pV (Kd.V_mono (Kd.V_far (p := ⟨gb262, 2, none⟩) (Kd.V_far (p := ⟨gb262, 1, none⟩) (Kd.V_far (p := ⟨gb262, 0, none⟩) (Kd.V_mono HO258.out (fun k_ hk => (⟨hk, hk.2⟩ : _ ∧ k_ ≠ gb262))) (fun _ hk => hk.2) (.int .i64 t254)) (fun _ hk => hk.2) (.string t255)) (fun _ hk => hk.2) (.slice Ao68 t256.length co68)) (fun _ h_ => h_.1))) hb); have n7_ := Aside0.mk (Kd.V_below (Kd.pV (Kd.V_mono (Kd.V_far (p := ⟨gb262, 2, none⟩) (Kd.V_far (p := ⟨gb262, 1, none⟩) (Kd.V_far (p := ⟨gb262, 0, none⟩) (Kd.V_mono HO261.out (fun k_ hk => (⟨hk, hk.2⟩ : _ ∧ k_ ≠ gb262))) (fun _ hk => hk.2) (.int .i64 t254)) (fun _ hk => hk.2) (.string t255)) (fun _ hk => hk.2) (.slice Ao68 t256.length co68)) (fun _ h_ => h_.1))) hb); have n8_ := Aside0.mk (blk_below (g := gb223) (o := .cells #[.int .i64 a0_0, .string a0_1, .slice A0_2 l0_2.length c0_2, .slice A0_3 l0_3.length c0_3, .int .i64 a0_4, .string a0_5, .slice A0_6 l0_6.length c0_6, .string a0_7] 42 (0, 0)) (by (with_reducible repeat (first | refine blk_drewN ?_ _ | refine blk_drew ?_ | refine blk_alloc ?_ _)); refine blk_far ?_ NB223_262.out _; (with_reducible repeat (first | refine blk_drewN ?_ _ | refine blk_drew ?_ | refine blk_alloc ?_ _)); refine blk_far ?_ NB223_262.out _; (with_reducible repeat (first | refine blk_drewN ?_ _ | refine blk_drew ?_ | refine blk_alloc ?_ _)); refine blk_far ?_ NB223_262.out _; (with_reducible repeat (first | refine blk_drewN ?_ _ | refine blk_drew ?_ | refine blk_alloc ?_ _)); exact BK223.out) hb); have n9_ := Aside0.mk (blk_below (g := gb224) (o := .cells #[.int .i64 a0_0, .string a0_1, .slice A0_2 l0_2.length c0_2] 39 (0, 0)) (by (with_reducible repeat (first | refine blk_drewN ?_ _ | refine blk_drew ?_ | refine blk_alloc ?_ _)); refine blk_far ?_ NB224_262.out _; (with_reducible repeat (first | refine blk_drewN ?_ _ | refine blk_drew ?_ | refine blk_alloc ?_ _)); refine blk_far ?_ NB224_262.out _; (with_reducible repeat (first | refine blk_drewN ?_ _ | refine blk_drew ?_ | refine blk_alloc ?_ _)); refine blk_far ?_ NB224_262.out _; (with_reducible repeat (first | refine blk_drewN ?_ _ | refine blk_drew ?_ | refine blk_alloc ?_ _)); exact BK224.out) hb); have n10_ := Aside0.mk (blk_below (g := gb225) (o := .cells #[.int .i64 a0_4, .string a0_5, .slice A0_6 l0_6.length c0_6] 40 (0, 0)) (by (with_reducible repeat (first | refine blk_drewN ?_ _ | refine blk_drew ?_ | refine blk_alloc ?_ _)); refine blk_far ?_ NB225_262.out _; (with_reducible repeat (first | refine blk_drewN ?_ _ | refine blk_drew ?_ | refine blk_alloc ?_ _)); refine blk_far ?_ NB225_262.out _; (with_reducible repeat (first | refine blk_drewN ?_ _ | refine blk_drew ?_ | refine blk_alloc ?_ _)); refine blk_far ?_ NB225_262.out _; (with_reducible repeat (first | refine blk_drewN ?_ _ | refine blk_drew ?_ | refine blk_alloc ?_ _)); exact BK225.out) hb); have n11_ := Aside0.mk (blk_below (g := gb235) (o := .cells #[.int .i64 t227, .string t228, .slice Ao35 t229.length co35] 39 (0, 0)) (by (with_reducible repeat (first | refine blk_drewN ?_ _ | refine blk_drew ?_ | refine blk_alloc ?_ _)); refine blk_far ?_ NB235_262.out _; (with_reducible repeat (first | refine blk_drewN ?_ _ | refine blk_drew ?_ | refine blk_alloc ?_ _)); refine blk_far ?_ NB235_262.out _; (with_reducible repeat (first | refine blk_drewN ?_ _ | refine blk_drew ?_ | refine blk_alloc ?_ _)); refine blk_far ?_ NB235_262.out _; (with_reducible repeat (first | refine blk_drewN ?_ _ | refine blk_drew ?_ | refine blk_alloc ?_ _)); exact BK235.out) hb); have n12_ := Aside0.mk (blk_below (g := gb244) (o := .cells #[.int .i64 t236, .string t237, .slice Ao45 t238.length co45] 39 (0, 0)) (by (with_reducible repeat (first | refine blk_drewN ?_ _ | refine blk_drew ?_ | refine blk_alloc ?_ _)); refine blk_far ?_ NB244_262.out _; (with_reducible repeat (first | refine blk_drewN ?_ _ | refine blk_drew ?_ | refine blk_alloc ?_ _)); refine blk_far ?_ NB244_262.out _; (with_reducible repeat (first | refine blk_drewN ?_ _ | refine blk_drew ?_ | refine blk_alloc ?_ _)); refine blk_far ?_ NB244_262.out _; (with_reducible repeat (first | refine blk_drewN ?_ _ | refine blk_drew ?_ | refine blk_alloc ?_ _)); exact BK244.out) hb); have n13_ := Aside0.mk (blk_below (g := gb253) (o := .cells #[.int .i64 t245, .string t246, .slice Ao56 t247.length co56] 39 (0, 0)) (by (with_reducible repeat (first | refine blk_drewN ?_ _ | refine blk_drew ?_ | refine blk_alloc ?_ _)); refine blk_far ?_ NB253_262.out _; (with_reducible repeat (first | refine blk_drewN ?_ _ | refine blk_drew ?_ | refine blk_alloc ?_ _)); refine blk_far ?_ NB253_262.out _; (with_reducible repeat (first | refine blk_drewN ?_ _ | refine blk_drew ?_ | refine blk_alloc ?_ _)); refine blk_far ?_ NB253_262.out _; (with_reducible repeat (first | refine blk_drewN ?_ _ | refine blk_drew ?_ | refine blk_alloc ?_ _)); exact BK253.out) hb); have n14_ := Aside0.mk (blk_below (g := gb262) (o := .cells #[.int .i64 t254, .string t255, .slice Ao68 t256.length co68] 39 (0, 0)) (by (with_reducible repeat (first | refine blk_drewN ?_ _ | refine blk_drew ?_ | refine blk_alloc ?_ _)); refine blk_put (cs := #[.int .i64 t254, .string t255, .slice none 0 0]) ?_ 2 _ rfl; (with_reducible repeat (first | refine blk_drewN ?_ _ | refine blk_drew ?_ | refine blk_alloc ?_ _)); refine blk_put (cs := #[.int .i64 t254, .string (⟨#[]⟩ : ByteArray), .slice none 0 0]) ?_ 1 _ rfl; (with_reducible repeat (first | refine blk_drewN ?_ _ | refine blk_drew ?_ | refine blk_alloc ?_ _)); refine blk_put (cs := #[.int .i64 0, .string (⟨#[]⟩ : ByteArray), .slice none 0 0]) ?_ 0 _ rfl; (with_reducible repeat (first | refine blk_drewN ?_ _ | refine blk_drew ?_ | refine blk_alloc ?_ _)); exact BK262.out) hb); have n15_ := Aside0.mk (below_step (by repeat (first | (with_reducible first | exact HB.out | apply below_alloc | apply pw_below_drewN | apply below_drew1 | refine below_set ?_ GE223.out | refine below_set ?_ GE224.out | refine below_set ?_ GE225.out | refine below_set ?_ GE235.out | refine below_set ?_ GE244.out | refine below_set ?_ GE253.out | refine below_set ?_ GE262.out) | exact HB.out)) hb); clear HO231; clear HO234; clear HO240; clear HO243; clear HO249; clear HO252; clear HO258; clear HO261; clear BK223; clear BK224; clear BK225; clear BK235; clear BK244; clear BK253; clear BK262; clear HB; have HO231 := n0_; have HO234 := n1_; have HO240 := n2_; have HO243 := n3_; have HO249 := n4_; have HO252 := n5_; have HO258 := n6_; have HO261 := n7_; have BK223 := n8_; have BK224 := n9_; have BK225 := n10_; have BK235 := n11_; have BK244 := n12_; have BK253 := n13_; have BK262 := n14_; have HB := n15_; clear n0_ n1_ n2_ n3_ n4_ n5_ n6_ n7_ n8_ n9_ n10_ n11_ n12_ n13_ n14_ n15_; (try clear hb); (try clear hb2); (try clear hk); (try clear hi)))
      go_meet
      case rel => exact ⟨_, (false), (by first | rfl | (simp; done) | (simp [*]; done)), H', ⟨by have := HJ2.out; first | omega | exact Nat.le_refl _⟩, ⟨by (with_reducible repeat (first | apply Kd.N_alloc | apply Kd.N_drewN | apply Kd.N_drew)); exact Kd.N_mono HO234.out (fun _ hk => ⟨hk.1.1, ⟨hk.1.2.1, ⟨hk.1.2.2.1, ⟨hk.1.2.2.2.1, ⟨hk.1.2.2.2.2.1, ⟨hk.1.2.2.2.2.2.1, ⟨hk.1.2.2.2.2.2.2, hk.2⟩⟩⟩⟩⟩⟩⟩)⟩, ⟨by (with_reducible repeat (first | apply Kd.N_alloc | apply Kd.N_drewN | apply Kd.N_drew)); exact Kd.N_mono HO243.out (fun _ hk => ⟨hk.1.1, ⟨hk.1.2.1, ⟨hk.1.2.2.1, ⟨hk.1.2.2.2.1, ⟨hk.1.2.2.2.2.1, ⟨hk.1.2.2.2.2.2.1, ⟨hk.1.2.2.2.2.2.2, hk.2⟩⟩⟩⟩⟩⟩⟩)⟩, ⟨by (with_reducible repeat (first | apply Kd.V_alloc | apply Kd.V_drewN | apply Kd.V_drew)); exact Kd.V_mono HO252.out (fun _ hk => ⟨hk.1.1, ⟨hk.1.2.1, ⟨hk.1.2.2.1, ⟨hk.1.2.2.2.1, ⟨hk.1.2.2.2.2.1, ⟨hk.1.2.2.2.2.2.1, ⟨hk.1.2.2.2.2.2.2.1, ⟨hk.1.2.2.2.2.2.2.2, hk.2⟩⟩⟩⟩⟩⟩⟩⟩)⟩, ⟨by (with_reducible repeat (first | apply Kd.V_alloc | apply Kd.V_drewN | apply Kd.V_drew)); exact Kd.V_mono HO261.out (fun _ hk => ⟨hk.1.1, ⟨hk.1.2.1, ⟨hk.1.2.2.1, ⟨hk.1.2.2.2.1, ⟨hk.1.2.2.2.2.1, ⟨hk.1.2.2.2.2.2.1, ⟨hk.1.2.2.2.2.2.2.1, ⟨hk.1.2.2.2.2.2.2.2, hk.2⟩⟩⟩⟩⟩⟩⟩⟩)⟩, ⟨by (with_reducible repeat (first | apply Kd.V_alloc | apply Kd.V_drewN | apply Kd.V_drew)); exact Kd.V_mono HO231.out (fun _ hk => ⟨hk.1.1, ⟨hk.1.2.1, ⟨hk.1.2.2.1, ⟨hk.1.2.2.2.1, ⟨hk.1.2.2.2.2.1, ⟨hk.1.2.2.2.2.2.1, ⟨hk.1.2.2.2.2.2.2.1, ⟨hk.1.2.2.2.2.2.2.2, hk.2⟩⟩⟩⟩⟩⟩⟩⟩)⟩, ⟨by (with_reducible repeat (first | apply Kd.V_alloc | apply Kd.V_drewN | apply Kd.V_drew)); exact Kd.V_mono HO240.out (fun _ hk => ⟨hk.1.1, ⟨hk.1.2.1, ⟨hk.1.2.2.1, ⟨hk.1.2.2.2.1, ⟨hk.1.2.2.2.2.1, ⟨hk.1.2.2.2.2.2.1, ⟨hk.1.2.2.2.2.2.2.1, ⟨hk.1.2.2.2.2.2.2.2, hk.2⟩⟩⟩⟩⟩⟩⟩⟩)⟩, ⟨by (with_reducible repeat (first | apply Kd.V_alloc | apply Kd.V_drewN | apply Kd.V_drew)); exact Kd.V_mono HO249.out (fun _ hk => ⟨hk.1.1, ⟨hk.1.2.1, ⟨hk.1.2.2.1, ⟨hk.1.2.2.2.1, ⟨hk.1.2.2.2.2.1, ⟨hk.1.2.2.2.2.2.1, ⟨hk.1.2.2.2.2.2.2.1, ⟨hk.1.2.2.2.2.2.2.2, hk.2⟩⟩⟩⟩⟩⟩⟩⟩)⟩, ⟨by (with_reducible repeat (first | apply Kd.V_alloc | apply Kd.V_drewN | apply Kd.V_drew)); exact Kd.V_mono HO258.out (fun _ hk => ⟨hk.1.1, ⟨hk.1.2.1, ⟨hk.1.2.2.1, ⟨hk.1.2.2.2.1, ⟨hk.1.2.2.2.2.1, ⟨hk.1.2.2.2.2.2.1, ⟨hk.1.2.2.2.2.2.2.1, ⟨hk.1.2.2.2.2.2.2.2, hk.2⟩⟩⟩⟩⟩⟩⟩⟩)⟩, ⟨by (with_reducible repeat (first | refine blk_drewN ?_ _ | refine blk_drew ?_ | refine blk_alloc ?_ _)); exact BK223.out⟩, ⟨by (with_reducible repeat (first | refine blk_drewN ?_ _ | refine blk_drew ?_ | refine blk_alloc ?_ _)); exact BK224.out⟩, ⟨by (with_reducible repeat (first | refine blk_drewN ?_ _ | refine blk_drew ?_ | refine blk_alloc ?_ _)); exact BK225.out⟩, ⟨by (with_reducible repeat (first | refine blk_drewN ?_ _ | refine blk_drew ?_ | refine blk_alloc ?_ _)); exact BK235.out⟩, ⟨by (with_reducible repeat (first | refine blk_drewN ?_ _ | refine blk_drew ?_ | refine blk_alloc ?_ _)); exact BK244.out⟩, ⟨by (with_reducible repeat (first | refine blk_drewN ?_ _ | refine blk_drew ?_ | refine blk_alloc ?_ _)); exact BK253.out⟩, ⟨by (with_reducible repeat (first | refine blk_drewN ?_ _ | refine blk_drew ?_ | refine blk_alloc ?_ _)); exact BK262.out⟩, ⟨by repeat (first | (with_reducible first | exact HB.out | apply below_alloc | apply pw_below_drewN | apply below_drew1 | refine below_set ?_ GE223.out | refine below_set ?_ GE224.out | refine below_set ?_ GE225.out | refine below_set ?_ GE235.out | refine below_set ?_ GE244.out | refine below_set ?_ GE253.out | refine below_set ?_ GE262.out) | exact HB.out)⟩⟩
    case rest =>
     clear HC25
     try clear c1
     try clear c2
     try clear p2
     try clear c3
     try clear c4
     try clear c5
     try clear c6
     try clear c7
     try clear c8
     try clear c9
     try clear c10
     try clear c11
     try clear c12
     try clear c16
     try clear c16b0
     try clear c16b1
     try clear c17
     try clear c18
     try clear c20
     try clear c26
     try clear c27
     try clear c31
     try clear c32
     try clear c33
     try clear c37
     try clear c38
     try clear c39
     try clear c40
     try clear c41
     try clear c42
     try clear c43
     try clear c50
     try clear c51
     try clear c52
     try clear c53
     try clear c54
     try clear c61
     try clear c62
     try clear c63
     try clear c64
     try clear c65
     try clear c66
     try clear c70
     try clear c72
     try clear c73
     try clear c74
     try clear c75
     try clear c76
     try clear c77
     try clear c79
     try clear c80
     try clear c81
     try clear c82
     try clear c83
     try clear c86
     try clear c87
     try clear c88
     try clear c89
     try clear c91
     try clear c92
     try clear c93
     try clear c96
     try clear c97
     try clear c98
     try clear c99
     try clear c100
     try clear c101
     try clear c103
     try clear c104
     try clear c105
     try clear c106
     try clear c107
     try clear hcz102_0
     try clear hcz102_1
     try clear hcz102_2
     try clear hcz108_0
     try clear hcz108_1
     try clear hcz108_2
     try clear hcz13_0
     try clear hcz13_1
     try clear hcz13_2
     try clear hcz14_0
     try clear hcz14_1
     try clear hcz14_2
     try clear hcz14_3
     try clear hcz14_4
     try clear hcz14_5
     try clear hcz14_6
     try clear hcz14_7
     try clear hcz19_0
     try clear hcz19_1
     try clear hcz19_2
     try clear hcz28_0
     try clear hcz28_1
     try clear hcz28_2
     try clear hcz34_0
     try clear hcz34_1
     try clear hcz34_2
     try clear hcz37_0
     try clear hcz37_1
     try clear hcz37_2
     try clear hcz44_0
     try clear hcz44_1
     try clear hcz44_2
     try clear hcz47_0
     try clear hcz47_1
     try clear hcz47_2
     try clear hcz55_0
     try clear hcz55_1
     try clear hcz55_2
     try clear hcz58_0
     try clear hcz58_1
     try clear hcz58_2
     try clear hcz5_0
     try clear hcz5_1
     try clear hcz5_2
     try clear hcz5_3
     try clear hcz5_4
     try clear hcz5_5
     try clear hcz5_6
     try clear hcz5_7
     try clear hcz67_0
     try clear hcz67_1
     try clear hcz67_2
     try clear hcz78_0
     try clear hcz78_1
     try clear hcz78_2
     try clear hcz84_0
     try clear hcz84_1
     try clear hcz84_2
     try clear hcz8_0
     try clear hcz8_1
     try clear hcz8_2
     try clear hcz90_0
     try clear hcz90_1
     try clear hcz90_2
     try clear hcz94_0
     try clear hcz94_1
     try clear hcz94_2
     try clear hcz9_0
     try clear hcz9_1
     try clear hcz9_2
     try clear hcz9_3
     try clear hcz9_4
     try clear hcz9_5
     try clear hcz9_6
     try clear hcz9_7
     try clear hfz102_0
     try clear hfz102_1
     try clear hfz102_2
     try clear hfz108_0
     try clear hfz108_1
     try clear hfz108_2
     try clear hfz13_0
     try clear hfz13_1
     try clear hfz13_2
     try clear hfz14_0
     try clear hfz14_1
     try clear hfz14_2
     try clear hfz14_3
     try clear hfz14_4
     try clear hfz14_5
     try clear hfz14_6
     try clear hfz14_7
     try clear hfz19_0
     try clear hfz19_1
     try clear hfz19_2
     try clear hfz28_0
     try clear hfz28_1
     try clear hfz28_2
     try clear hfz34_0
     try clear hfz34_1
     try clear hfz34_2
     try clear hfz37_0
     try clear hfz37_1
     try clear hfz37_2
     try clear hfz44_0
     try clear hfz44_1
     try clear hfz44_2
     try clear hfz47_0
     try clear hfz47_1
     try clear hfz47_2
     try clear hfz55_0
     try clear hfz55_1
     try clear hfz55_2
     try clear hfz58_0
     try clear hfz58_1
     try clear hfz58_2
     try clear hfz5_0
     try clear hfz5_1
     try clear hfz5_2
     try clear hfz5_3
     try clear hfz5_4
     try clear hfz5_5
     try clear hfz5_6
     try clear hfz5_7
     try clear hfz67_0
     try clear hfz67_1
     try clear hfz67_2
     try clear hfz78_0
     try clear hfz78_1
     try clear hfz78_2
     try clear hfz84_0
     try clear hfz84_1
     try clear hfz84_2
     try clear hfz8_0
     try clear hfz8_1
     try clear hfz8_2
     try clear hfz90_0
     try clear hfz90_1
     try clear hfz90_2
     try clear hfz94_0
     try clear hfz94_1
     try clear hfz94_2
     try clear hfz9_0
     try clear hfz9_1
     try clear hfz9_2
     try clear hfz9_3
     try clear hfz9_4
     try clear hfz9_5
     try clear hfz9_6
     try clear hfz9_7
     try clear p2
     obtain ⟨kq, x16_24, rfl, HA, HJ24, HO_9, HO_11, HO_13, HO_15, HO_236002, HO_245002, HO_254002, HO_263002, BK223, BK224, BK225, BK235, BK244, BK253, BK262, HB⟩ := hcut
     cases kq with
     | zero => exact absurd HA.out (by simp [selvedgelaw15_CutFeeds.j1])
     | succ kj24 =>
      have H := HA.out
      clear HA
      simp only [selvedgelaw15_CutFeeds.j1] at H
      have HC110 := Aside0.mk H
      clear H
      go_upto_region 13 with (fail)
      go_cut [17] (fun v17 wc => ∃ (kq : Nat) (x17_109 : Bool), v17 = .bool x17_109 ∧ Aside0 (selvedgelaw15_CutFeeds.j2 kq a0_7 t226 x16_24 x17_109 a0_0 a0_1 l0_2 a0_4 a0_5 l0_6 = some r) ∧ Aside0 (kq ≤ kj24) ∧ Aside0 (Kd.V Kd.string 9 wc w.heap.size (fun k_ => k_ ≠ gb223 ∧ k_ ≠ gb224 ∧ k_ ≠ gb225 ∧ k_ ≠ gb235 ∧ k_ ≠ gb244 ∧ k_ ≠ gb253 ∧ k_ ≠ gb262) (.slice Ao35 t229.length co35) t229) ∧ Aside0 (Kd.V Kd.string 9 wc w.heap.size (fun k_ => k_ ≠ gb223 ∧ k_ ≠ gb224 ∧ k_ ≠ gb225 ∧ k_ ≠ gb235 ∧ k_ ≠ gb244 ∧ k_ ≠ gb253 ∧ k_ ≠ gb262) (.slice Ao45 t238.length co45) t238) ∧ Aside0 (Kd.V Kd.string 9 wc w.heap.size (fun k_ => k_ ≠ gb223 ∧ k_ ≠ gb224 ∧ k_ ≠ gb225 ∧ k_ ≠ gb235 ∧ k_ ≠ gb244 ∧ k_ ≠ gb253 ∧ k_ ≠ gb262) (.slice Ao56 t247.length co56) t247) ∧ Aside0 (Kd.V Kd.string 9 wc w.heap.size (fun k_ => k_ ≠ gb223 ∧ k_ ≠ gb224 ∧ k_ ≠ gb225 ∧ k_ ≠ gb235 ∧ k_ ≠ gb244 ∧ k_ ≠ gb253 ∧ k_ ≠ gb262) (.slice Ao68 t256.length co68) t256) ∧ Aside0 (wc.heap[gb223]? = some (.cells #[.int .i64 a0_0, .string a0_1, (.slice A0_2 l0_2.length c0_2), (.slice A0_3 l0_3.length c0_3), .int .i64 a0_4, .string a0_5, (.slice A0_6 l0_6.length c0_6), .string a0_7] 42 (0, 0))) ∧ Aside0 (wc.heap[gb224]? = some (.cells #[.int .i64 a0_0, .string a0_1, (.slice A0_2 l0_2.length c0_2)] 39 (0, 0))) ∧ Aside0 (wc.heap[gb225]? = some (.cells #[.int .i64 a0_4, .string a0_5, (.slice A0_6 l0_6.length c0_6)] 40 (0, 0))) ∧ Aside0 (wc.heap[gb235]? = some (.cells #[.int .i64 t227, .string t228, (.slice Ao35 t229.length co35)] 39 (0, 0))) ∧ Aside0 (wc.heap[gb244]? = some (.cells #[.int .i64 t236, .string t237, (.slice Ao45 t238.length co45)] 39 (0, 0))) ∧ Aside0 (wc.heap[gb253]? = some (.cells #[.int .i64 t245, .string t246, (.slice Ao56 t247.length co56)] 39 (0, 0))) ∧ Aside0 (wc.heap[gb262]? = some (.cells #[.int .i64 t254, .string t255, (.slice Ao68 t256.length co68)] 39 (0, 0))) ∧ Aside0 (Below w.heap.size w wc))
      case first =>
       have H := HC110.out
       clear HC110
       replace H := Option.bind_eq_some_iff.mp H
       obtain ⟨t265, A1110, H⟩ := H
       replace H : (if t265 = true then ((selvedgeref15_Blocks.f kj24 t250 t259).bind fun t266 => (selvedgelaw15_CutFeeds.j2 kj24 a0_7 t226 x16_24 t266 a0_0 a0_1 l0_2 a0_4 a0_5 l0_6)) else (selvedgelaw15_CutFeeds.j2 kj24 a0_7 t226 x16_24 false a0_0 a0_1 l0_2 a0_4 a0_5 l0_6)) = some r := H
       have A111 := Aside0.mk A1110
       clear A1110
       by_cases c112 : t265 = true
       ·
        subst c112
        have H1 : ((selvedgeref15_Blocks.f kj24 t250 t259).bind fun t266 => (selvedgelaw15_CutFeeds.j2 kj24 a0_7 t226 x16_24 t266 a0_0 a0_1 l0_2 a0_4 a0_5 l0_6)) = some r := by rw [if_pos rfl] at H; exact H
        clear H
        have H := H1
        clear H1
        replace H := Option.bind_eq_some_iff.mp H
        obtain ⟨t266, A1130, H⟩ := H
        replace H : (selvedgelaw15_CutFeeds.j2 kj24 a0_7 t226 x16_24 t266 a0_0 a0_1 l0_2 a0_4 a0_5 l0_6) = some r := H
        have A113 := Aside0.mk A1130
        clear A1130
        have H' := Aside0.mk H
        clear H
        obtain ⟨Ao114, co114, eo114⟩ := Kd.N_slice HO_9.out
        subst eo114
        obtain ⟨Ao115, co115, eo115⟩ := Kd.N_slice HO_11.out
        subst eo115
        go_wp2_with (first | ((with_reducible refine gate_callee (f := 43) rfl ?_); refine goesL_ (some 69) rfl rfl Try.func43 (by kernel_rfl) rfl #[.slice Ao114 t232.length co114, .slice Ao115 t241.length co115] rfl (by (try simp only [List.map_toArray, List.map_cons, List.map_nil]); first | done | rfl | (simp only [List.length_drop, List.length_take]; rfl)) ?_; (with_reducible refine (selvedgeref15_Blocks.calls kj24 _ _ t232 _ _ t241 true _ ?side1 ?side2 ?side3 ?side4 A111.out).mono ?_); (case side1 => repeat (first | exact (Kd.N_reads' HO_9.out).2.2 | (with_reducible refine Kd.C_alloc ?_ _) | (with_reducible refine Kd.C_drewN ?_ _) | (with_reducible refine Kd.C_drew ?_))); (case side2 => exact (Kd.N_reads' HO_9.out).2.1); (case side3 => repeat (first | exact (Kd.N_reads' HO_11.out).2.2 | (with_reducible refine Kd.C_alloc ?_ _) | (with_reducible refine Kd.C_drewN ?_ _) | (with_reducible refine Kd.C_drew ?_))); (case side4 => exact (Kd.N_reads' HO_11.out).2.1); rintro e w' ⟨rfl, ⟨nd, rfl⟩⟩; refine ⟨_, rfl, ?_⟩; obtain ⟨Ao116, co116, eo116⟩ := Kd.V_slice HO_13.out; subst eo116; obtain ⟨Ao117, co117, eo117⟩ := Kd.V_slice HO_15.out; subst eo117) | (go_at_call 43; (with_reducible refine (selvedgeref15_Blocks.calls kj24 _ _ t250 _ _ t259 t266 _ ?side1 ?side2 ?side3 ?side4 A113.out).mono ?_); (case side1 => repeat (first | exact (Kd.V_reads' HO_13.out).2.2 | (with_reducible refine Kd.C_alloc ?_ _) | (with_reducible refine Kd.C_drewN ?_ _) | (with_reducible refine Kd.C_drew ?_))); (case side2 => exact (Kd.V_reads' HO_13.out).2.1); (case side3 => repeat (first | exact (Kd.V_reads' HO_15.out).2.2 | (with_reducible refine Kd.C_alloc ?_ _) | (with_reducible refine Kd.C_drewN ?_ _) | (with_reducible refine Kd.C_drew ?_))); (case side4 => exact (Kd.V_reads' HO_15.out).2.1); rintro e w' ⟨rfl, ⟨nd, rfl⟩⟩))
        go_meet
        case rel => exact ⟨_, (t266), (by first | rfl | (simp; done) | (simp [*]; done)), H', ⟨by have := HJ2.out; have := HJ24.out; first | omega | exact Nat.le_refl _⟩, ⟨by (with_reducible repeat (first | apply Kd.V_alloc | apply Kd.V_drewN | apply Kd.V_drew)); exact Kd.V_mono HO_236002.out (fun _ hk => ⟨hk.2.2.1, ⟨hk.2.2.2.1, ⟨hk.2.2.2.2.1, ⟨hk.2.2.2.2.2.1, ⟨hk.2.2.2.2.2.2.1, ⟨hk.2.2.2.2.2.2.2.1, hk.2.2.2.2.2.2.2.2⟩⟩⟩⟩⟩⟩)⟩, ⟨by (with_reducible repeat (first | apply Kd.V_alloc | apply Kd.V_drewN | apply Kd.V_drew)); exact Kd.V_mono HO_245002.out (fun _ hk => ⟨hk.2.2.1, ⟨hk.2.2.2.1, ⟨hk.2.2.2.2.1, ⟨hk.2.2.2.2.2.1, ⟨hk.2.2.2.2.2.2.1, ⟨hk.2.2.2.2.2.2.2.1, hk.2.2.2.2.2.2.2.2⟩⟩⟩⟩⟩⟩)⟩, ⟨by (with_reducible repeat (first | apply Kd.V_alloc | apply Kd.V_drewN | apply Kd.V_drew)); exact Kd.V_mono HO_254002.out (fun _ hk => ⟨hk.2.2.1, ⟨hk.2.2.2.1, ⟨hk.2.2.2.2.1, ⟨hk.2.2.2.2.2.1, ⟨hk.2.2.2.2.2.2.1, ⟨hk.2.2.2.2.2.2.2.1, hk.2.2.2.2.2.2.2.2⟩⟩⟩⟩⟩⟩)⟩, ⟨by (with_reducible repeat (first | apply Kd.V_alloc | apply Kd.V_drewN | apply Kd.V_drew)); exact Kd.V_mono HO_263002.out (fun _ hk => ⟨hk.2.2.1, ⟨hk.2.2.2.1, ⟨hk.2.2.2.2.1, ⟨hk.2.2.2.2.2.1, ⟨hk.2.2.2.2.2.2.1, ⟨hk.2.2.2.2.2.2.2.1, hk.2.2.2.2.2.2.2.2⟩⟩⟩⟩⟩⟩)⟩, ⟨by (with_reducible repeat (first | refine blk_drewN ?_ _ | refine blk_drew ?_ | refine blk_alloc ?_ _)); exact BK223.out⟩, ⟨by (with_reducible repeat (first | refine blk_drewN ?_ _ | refine blk_drew ?_ | refine blk_alloc ?_ _)); exact BK224.out⟩, ⟨by (with_reducible repeat (first | refine blk_drewN ?_ _ | refine blk_drew ?_ | refine blk_alloc ?_ _)); exact BK225.out⟩, ⟨by (with_reducible repeat (first | refine blk_drewN ?_ _ | refine blk_drew ?_ | refine blk_alloc ?_ _)); exact BK235.out⟩, ⟨by (with_reducible repeat (first | refine blk_drewN ?_ _ | refine blk_drew ?_ | refine blk_alloc ?_ _)); exact BK244.out⟩, ⟨by (with_reducible repeat (first | refine blk_drewN ?_ _ | refine blk_drew ?_ | refine blk_alloc ?_ _)); exact BK253.out⟩, ⟨by (with_reducible repeat (first | refine blk_drewN ?_ _ | refine blk_drew ?_ | refine blk_alloc ?_ _)); exact BK262.out⟩, ⟨by repeat (first | (with_reducible first | exact HB.out | apply below_alloc | apply pw_below_drewN | apply below_drew1 | refine below_set ?_ GE223.out | refine below_set ?_ GE224.out | refine below_set ?_ GE225.out | refine below_set ?_ GE235.out | refine below_set ?_ GE244.out | refine below_set ?_ GE253.out | refine below_set ?_ GE262.out) | exact HB.out)⟩⟩
       ·
        replace c112 := Bool.eq_false_iff.mpr c112
        subst c112
        have H1 : (selvedgelaw15_CutFeeds.j2 kj24 a0_7 t226 x16_24 false a0_0 a0_1 l0_2 a0_4 a0_5 l0_6) = some r := by rw [if_neg (show ¬ (false = true) by decide)] at H; exact H
        clear H
        have H := H1
        clear H1
        have H' := Aside0.mk H
        clear H
        obtain ⟨Ao118, co118, eo118⟩ := Kd.N_slice HO_9.out
        subst eo118
        obtain ⟨Ao119, co119, eo119⟩ := Kd.N_slice HO_11.out
        subst eo119
        go_wp2_with (first | ((with_reducible refine gate_callee (f := 43) rfl ?_); refine goesL_ (some 69) rfl rfl Try.func43 (by kernel_rfl) rfl #[.slice Ao118 t232.length co118, .slice Ao119 t241.length co119] rfl (by (try simp only [List.map_toArray, List.map_cons, List.map_nil]); first | done | rfl | (simp only [List.length_drop, List.length_take]; rfl)) ?_; (with_reducible refine (selvedgeref15_Blocks.calls kj24 _ _ t232 _ _ t241 false _ ?side1 ?side2 ?side3 ?side4 A111.out).mono ?_); (case side1 => repeat (first | exact (Kd.N_reads' HO_9.out).2.2 | (with_reducible refine Kd.C_alloc ?_ _) | (with_reducible refine Kd.C_drewN ?_ _) | (with_reducible refine Kd.C_drew ?_))); (case side2 => exact (Kd.N_reads' HO_9.out).2.1); (case side3 => repeat (first | exact (Kd.N_reads' HO_11.out).2.2 | (with_reducible refine Kd.C_alloc ?_ _) | (with_reducible refine Kd.C_drewN ?_ _) | (with_reducible refine Kd.C_drew ?_))); (case side4 => exact (Kd.N_reads' HO_11.out).2.1); rintro e w' ⟨rfl, ⟨nd, rfl⟩⟩; refine ⟨_, rfl, ?_⟩))
        go_meet
        case rel => exact ⟨_, (false), (by first | rfl | (simp; done) | (simp [*]; done)), H', ⟨by have := HJ2.out; have := HJ24.out; first | omega | exact Nat.le_refl _⟩, ⟨by (with_reducible repeat (first | apply Kd.V_alloc | apply Kd.V_drewN | apply Kd.V_drew)); exact Kd.V_mono HO_236002.out (fun _ hk => ⟨hk.2.2.1, ⟨hk.2.2.2.1, ⟨hk.2.2.2.2.1, ⟨hk.2.2.2.2.2.1, ⟨hk.2.2.2.2.2.2.1, ⟨hk.2.2.2.2.2.2.2.1, hk.2.2.2.2.2.2.2.2⟩⟩⟩⟩⟩⟩)⟩, ⟨by (with_reducible repeat (first | apply Kd.V_alloc | apply Kd.V_drewN | apply Kd.V_drew)); exact Kd.V_mono HO_245002.out (fun _ hk => ⟨hk.2.2.1, ⟨hk.2.2.2.1, ⟨hk.2.2.2.2.1, ⟨hk.2.2.2.2.2.1, ⟨hk.2.2.2.2.2.2.1, ⟨hk.2.2.2.2.2.2.2.1, hk.2.2.2.2.2.2.2.2⟩⟩⟩⟩⟩⟩)⟩, ⟨by (with_reducible repeat (first | apply Kd.V_alloc | apply Kd.V_drewN | apply Kd.V_drew)); exact Kd.V_mono HO_254002.out (fun _ hk => ⟨hk.2.2.1, ⟨hk.2.2.2.1, ⟨hk.2.2.2.2.1, ⟨hk.2.2.2.2.2.1, ⟨hk.2.2.2.2.2.2.1, ⟨hk.2.2.2.2.2.2.2.1, hk.2.2.2.2.2.2.2.2⟩⟩⟩⟩⟩⟩)⟩, ⟨by (with_reducible repeat (first | apply Kd.V_alloc | apply Kd.V_drewN | apply Kd.V_drew)); exact Kd.V_mono HO_263002.out (fun _ hk => ⟨hk.2.2.1, ⟨hk.2.2.2.1, ⟨hk.2.2.2.2.1, ⟨hk.2.2.2.2.2.1, ⟨hk.2.2.2.2.2.2.1, ⟨hk.2.2.2.2.2.2.2.1, hk.2.2.2.2.2.2.2.2⟩⟩⟩⟩⟩⟩)⟩, ⟨by (with_reducible repeat (first | refine blk_drewN ?_ _ | refine blk_drew ?_ | refine blk_alloc ?_ _)); exact BK223.out⟩, ⟨by (with_reducible repeat (first | refine blk_drewN ?_ _ | refine blk_drew ?_ | refine blk_alloc ?_ _)); exact BK224.out⟩, ⟨by (with_reducible repeat (first | refine blk_drewN ?_ _ | refine blk_drew ?_ | refine blk_alloc ?_ _)); exact BK225.out⟩, ⟨by (with_reducible repeat (first | refine blk_drewN ?_ _ | refine blk_drew ?_ | refine blk_alloc ?_ _)); exact BK235.out⟩, ⟨by (with_reducible repeat (first | refine blk_drewN ?_ _ | refine blk_drew ?_ | refine blk_alloc ?_ _)); exact BK244.out⟩, ⟨by (with_reducible repeat (first | refine blk_drewN ?_ _ | refine blk_drew ?_ | refine blk_alloc ?_ _)); exact BK253.out⟩, ⟨by (with_reducible repeat (first | refine blk_drewN ?_ _ | refine blk_drew ?_ | refine blk_alloc ?_ _)); exact BK262.out⟩, ⟨by repeat (first | (with_reducible first | exact HB.out | apply below_alloc | apply pw_below_drewN | apply below_drew1 | refine below_set ?_ GE223.out | refine below_set ?_ GE224.out | refine below_set ?_ GE225.out | refine below_set ?_ GE235.out | refine below_set ?_ GE244.out | refine below_set ?_ GE253.out | refine below_set ?_ GE262.out) | exact HB.out)⟩⟩
      case rest =>
       clear HC110
       try clear c1
       try clear c2
       try clear p2
       try clear c3
       try clear c4
       try clear c5
       try clear c6
       try clear c7
       try clear c8
       try clear c9
       try clear c10
       try clear c11
       try clear c12
       try clear c16
       try clear c16b0
       try clear c16b1
       try clear c17
       try clear c18
       try clear c20
       try clear c26
       try clear c27
       try clear c31
       try clear c32
       try clear c33
       try clear c37
       try clear c38
       try clear c39
       try clear c40
       try clear c41
       try clear c42
       try clear c43
       try clear c50
       try clear c51
       try clear c52
       try clear c53
       try clear c54
       try clear c61
       try clear c62
       try clear c63
       try clear c64
       try clear c65
       try clear c66
       try clear c70
       try clear c72
       try clear c73
       try clear c74
       try clear c75
       try clear c76
       try clear c77
       try clear c79
       try clear c80
       try clear c81
       try clear c82
       try clear c83
       try clear c86
       try clear c87
       try clear c88
       try clear c89
       try clear c91
       try clear c92
       try clear c93
       try clear c96
       try clear c97
       try clear c98
       try clear c99
       try clear c100
       try clear c101
       try clear c103
       try clear c104
       try clear c105
       try clear c106
       try clear c107
       try clear c112
       try clear hcz102_0
       try clear hcz102_1
       try clear hcz102_2
       try clear hcz108_0
       try clear hcz108_1
       try clear hcz108_2
       try clear hcz13_0
       try clear hcz13_1
       try clear hcz13_2
       try clear hcz14_0
       try clear hcz14_1
       try clear hcz14_2
       try clear hcz14_3
       try clear hcz14_4
       try clear hcz14_5
       try clear hcz14_6
       try clear hcz14_7
       try clear hcz19_0
       try clear hcz19_1
       try clear hcz19_2
       try clear hcz28_0
       try clear hcz28_1
       try clear hcz28_2
       try clear hcz34_0
       try clear hcz34_1
       try clear hcz34_2
       try clear hcz37_0
       try clear hcz37_1
       try clear hcz37_2
       try clear hcz44_0
       try clear hcz44_1
       try clear hcz44_2
       try clear hcz47_0
       try clear hcz47_1
       try clear hcz47_2
       try clear hcz55_0
       try clear hcz55_1
       try clear hcz55_2
       try clear hcz58_0
       try clear hcz58_1
       try clear hcz58_2
       try clear hcz5_0
       try clear hcz5_1
       try clear hcz5_2
       try clear hcz5_3
       try clear hcz5_4
       try clear hcz5_5
       try clear hcz5_6
       try clear hcz5_7
       try clear hcz67_0
       try clear hcz67_1
       try clear hcz67_2
       try clear hcz78_0
       try clear hcz78_1
       try clear hcz78_2
       try clear hcz84_0
       try clear hcz84_1
       try clear hcz84_2
       try clear hcz8_0
       try clear hcz8_1
       try clear hcz8_2
       try clear hcz90_0
       try clear hcz90_1
       try clear hcz90_2
       try clear hcz94_0
       try clear hcz94_1
       try clear hcz94_2
       try clear hcz9_0
       try clear hcz9_1
       try clear hcz9_2
       try clear hcz9_3
       try clear hcz9_4
       try clear hcz9_5
       try clear hcz9_6
       try clear hcz9_7
       try clear hfz102_0
       try clear hfz102_1
       try clear hfz102_2
       try clear hfz108_0
       try clear hfz108_1
       try clear hfz108_2
       try clear hfz13_0
       try clear hfz13_1
       try clear hfz13_2
       try clear hfz14_0
       try clear hfz14_1
       try clear hfz14_2
       try clear hfz14_3
       try clear hfz14_4
       try clear hfz14_5
       try clear hfz14_6
       try clear hfz14_7
       try clear hfz19_0
       try clear hfz19_1
       try clear hfz19_2
       try clear hfz28_0
       try clear hfz28_1
       try clear hfz28_2
       try clear hfz34_0
       try clear hfz34_1
       try clear hfz34_2
       try clear hfz37_0
       try clear hfz37_1
       try clear hfz37_2
       try clear hfz44_0
       try clear hfz44_1
       try clear hfz44_2
       try clear hfz47_0
       try clear hfz47_1
       try clear hfz47_2
       try clear hfz55_0
       try clear hfz55_1
       try clear hfz55_2
       try clear hfz58_0
       try clear hfz58_1
       try clear hfz58_2
       try clear hfz5_0
       try clear hfz5_1
       try clear hfz5_2
       try clear hfz5_3
       try clear hfz5_4
       try clear hfz5_5
       try clear hfz5_6
       try clear hfz5_7
       try clear hfz67_0
       try clear hfz67_1
       try clear hfz67_2
       try clear hfz78_0
       try clear hfz78_1
       try clear hfz78_2
       try clear hfz84_0
       try clear hfz84_1
       try clear hfz84_2
       try clear hfz8_0
       try clear hfz8_1
       try clear hfz8_2
       try clear hfz90_0
       try clear hfz90_1
       try clear hfz90_2
       try clear hfz94_0
       try clear hfz94_1
       try clear hfz94_2
       try clear hfz9_0
       try clear hfz9_1
       try clear hfz9_2
       try clear hfz9_3
       try clear hfz9_4
       try clear hfz9_5
       try clear hfz9_6
       try clear hfz9_7
       try clear p2
       obtain ⟨kq, x17_109, rfl, HA, HJ109, HO_236002, HO_245002, HO_254002, HO_263002, BK223, BK224, BK225, BK235, BK244, BK253, BK262, HB⟩ := hcut
       cases kq with
       | zero => exact absurd HA.out (by simp [selvedgelaw15_CutFeeds.j2])
       | succ kj109 =>
        have H := HA.out
        clear HA
        simp only [selvedgelaw15_CutFeeds.j2] at H
        by_cases c120 : t226 = true
        ·
         subst c120
         have H1 : (if x16_24 = true then (if x17_109 = true then ((cut_Digest.f a0_4 a0_5 l0_6).bind fun t267 => ((selvedgeref15_Digest.f kj109 a0_4 a0_5 l0_6).bind fun t268 => (if t267.toList = t268.toList then ((cut_Fits.f kj109 l0_2 a0_7).bind fun t269 => ((selvedgeref15_Fits.f kj109 l0_2 a0_7).bind fun t270 => (some (t269 == t270)))) else (some false)))) else (some false)) else (some false)) = some r := by rw [if_pos rfl] at H; exact H
         clear H
         have H := H1
         clear H1
         by_cases c121 : x16_24 = true
         ·
          subst c121
          have H1 : (if x17_109 = true then ((cut_Digest.f a0_4 a0_5 l0_6).bind fun t267 => ((selvedgeref15_Digest.f kj109 a0_4 a0_5 l0_6).bind fun t268 => (if t267.toList = t268.toList then ((cut_Fits.f kj109 l0_2 a0_7).bind fun t269 => ((selvedgeref15_Fits.f kj109 l0_2 a0_7).bind fun t270 => (some (t269 == t270)))) else (some false)))) else (some false)) = some r := by rw [if_pos rfl] at H; exact H
          clear H
          have H := H1
          clear H1
          by_cases c122 : x17_109 = true
          ·
           subst c122
           have H1 : ((cut_Digest.f a0_4 a0_5 l0_6).bind fun t267 => ((selvedgeref15_Digest.f kj109 a0_4 a0_5 l0_6).bind fun t268 => (if t267.toList = t268.toList then ((cut_Fits.f kj109 l0_2 a0_7).bind fun t269 => ((selvedgeref15_Fits.f kj109 l0_2 a0_7).bind fun t270 => (some (t269 == t270)))) else (some false)))) = some r := by rw [if_pos rfl] at H; exact H
           clear H
           have H := H1
           clear H1
           replace H := Option.bind_eq_some_iff.mp H
           obtain ⟨t267, A1230, H⟩ := H
           replace H : ((selvedgeref15_Digest.f kj109 a0_4 a0_5 l0_6).bind fun t268 => (if t267.toList = t268.toList then ((cut_Fits.f kj109 l0_2 a0_7).bind fun t269 => ((selvedgeref15_Fits.f kj109 l0_2 a0_7).bind fun t270 => (some (t269 == t270)))) else (some false))) = some r := H
           have A123 := Aside0.mk A1230
           clear A1230
           replace H := Option.bind_eq_some_iff.mp H
           obtain ⟨t268, A1240, H⟩ := H
           replace H : (if t267.toList = t268.toList then ((cut_Fits.f kj109 l0_2 a0_7).bind fun t269 => ((selvedgeref15_Fits.f kj109 l0_2 a0_7).bind fun t270 => (some (t269 == t270)))) else (some false)) = some r := H
           have A124 := Aside0.mk A1240
           clear A1240
           by_cases c125 : t267.toList = t268.toList
           ·
            rw [if_pos c125] at H
            have c125b0 : (t267.toList == t268.toList) = true := beq_iff_eq.mpr c125
            have c125b1 : (t267.toList != t268.toList) = false := bne_eq_false_iff_eq.mpr c125
            clear c125
            replace H := Option.bind_eq_some_iff.mp H
            obtain ⟨t269, A1260, H⟩ := H
            replace H : ((selvedgeref15_Fits.f kj109 l0_2 a0_7).bind fun t270 => (some (t269 == t270))) = some r := H
            have A126 := Aside0.mk A1260
            clear A1260
            replace H := Option.bind_eq_some_iff.mp H
            obtain ⟨t270, A1270, H⟩ := H
            replace H : (some (t269 == t270)) = some r := H
            have A127 := Aside0.mk A1270
            clear A1270
            obtain rfl := Option.some.inj H
            try go_wp2
            have n0_ := Aside0.mk (Kd.V_drew HO_236002.out)
            have n1_ := Aside0.mk (Kd.V_drew HO_245002.out)
            have n2_ := Aside0.mk (Kd.V_drew HO_254002.out)
            have n3_ := Aside0.mk (Kd.V_drew HO_263002.out)
            have n4_ := Aside0.mk (blk_drew BK223.out)
            have n5_ := Aside0.mk (blk_drew BK224.out)
            have n6_ := Aside0.mk (blk_drew BK225.out)
            have n7_ := Aside0.mk (blk_drew BK235.out)
            have n8_ := Aside0.mk (blk_drew BK244.out)
            have n9_ := Aside0.mk (blk_drew BK253.out)
            have n10_ := Aside0.mk (blk_drew BK262.out)
            have n11_ := Aside0.mk (below_drew1 HB.out)
            clear HO_236002
            clear HO_245002
            clear HO_254002
            clear HO_263002
            clear BK223
            clear BK224
            clear BK225
            clear BK235
            clear BK244
            clear BK253
            clear BK262
            clear HB
            have HO_236002 := n0_
            have HO_245002 := n1_
            have HO_254002 := n2_
            have HO_263002 := n3_
            have BK223 := n4_
            have BK224 := n5_
            have BK225 := n6_
            have BK235 := n7_
            have BK244 := n8_
            have BK253 := n9_
            have BK262 := n10_
            have HB := n11_
            clear n0_ n1_ n2_ n3_ n4_ n5_ n6_ n7_ n8_ n9_ n10_ n11_
            refine start_ (n := 26) (S := fun w' => w'.cell? ⟨gb225, 0, none⟩ = some (.int .i64 a0_4) ∧ w'.cell? ⟨gb225, 1, none⟩ = some (.string a0_5) ∧ w'.cell? ⟨gb225, 2, none⟩ = some (.slice A0_6 l0_6.length c0_6) ∧ w'.cell? ⟨gb224, 0, none⟩ = some (.int .i64 a0_0) ∧ w'.cell? ⟨gb224, 1, none⟩ = some (.string a0_1) ∧ w'.cell? ⟨gb224, 2, none⟩ = some (.slice A0_2 l0_2.length c0_2)) (ds := []) #[false, false, false, false, false, false, false, false, false, false, false, false, false, false, false, false, false, false, false, false, false, false, false, false, false, false] (by kernel_rfl) rfl rfl ⟨(blk_cell BK225.out 0).trans rfl, (blk_cell BK225.out 1).trans rfl, (blk_cell BK225.out 2).trans rfl, (blk_cell BK224.out 0).trans rfl, (blk_cell BK224.out 1).trans rfl, (blk_cell BK224.out 2).trans rfl⟩ (fun hHeld => ?_); refine with_tabW selvedgelaw15_CutFeeds.tab14 selvedgelaw15_CutFeeds.bits14 (fun HT_ HW_ => ?_)
            generalize wc.drew = w128 at HO_236002 HO_245002 HO_254002 HO_263002 BK223 BK224 BK225 BK235 BK244 BK253 BK262 HB hHeld ⊢
            refine pure_ (i := 0) (N := some 75) (v := ?_) (a' := ?_) #[true, false, false, false, false, false, false, false, false, false, false, false, false, false, false, false, false, false, false, false, false, false, false, false, false, false] rfl rfl (any_of HT_.out (by kernel_rfl)) (fun _ _ _ h => h) (Or.inl ⟨by rfl, ?_⟩) ?_ ?_
            rotate_left
            ·
             intro w'
             go_simp
             with_reducible rfl
            rotate_left
            ·
             simp only [Act.put, List.setIfInBounds_toArray, List.set_cons_zero, List.set_cons_succ, i64_w, i32_w]
             rfl
            refine pure_ (i := 1) (N := some 76) (v := ?_) (a' := ?_) #[true, true, false, false, false, false, false, false, false, false, false, false, false, false, false, false, false, false, false, false, false, false, false, false, false, false] rfl rfl (any_of HT_.out (by kernel_rfl)) (fun _ _ _ h => h) (Or.inl ⟨by rfl, ?_⟩) ?_ ?_
            rotate_left
            ·
             intro w'
             go_simp
             with_reducible rfl
            rotate_left
            ·
             simp only [Act.put, List.setIfInBounds_toArray, List.set_cons_zero, List.set_cons_succ, i64_w, i32_w]
             rfl
            refine pure_ (i := 2) (N := some 77) (v := ?_) (a' := ?_) #[true, true, true, false, false, false, false, false, false, false, false, false, false, false, false, false, false, false, false, false, false, false, false, false, false, false] rfl rfl (any_of HT_.out (by kernel_rfl)) (fun _ _ _ h => h) (Or.inl ⟨by rfl, ?_⟩) ?_ ?_
            rotate_left
            ·
             intro w'
             go_simp
             with_reducible rfl
            rotate_left
            ·
             simp only [Act.put, List.setIfInBounds_toArray, List.set_cons_zero, List.set_cons_succ, i64_w, i32_w]
             rfl
            refine pure_ (i := 3) (N := some 78) (v := ?_) (a' := ?_) #[true, true, true, true, false, false, false, false, false, false, false, false, false, false, false, false, false, false, false, false, false, false, false, false, false, false] rfl rfl (any_of HT_.out (by kernel_rfl)) (fun _ _ _ h => h) (Or.inl ⟨by rfl, ?_⟩) ?_ ?_
            rotate_left
            ·
             intro w'
             go_simp
             with_reducible rfl
            rotate_left
            ·
             simp only [Act.put, List.setIfInBounds_toArray, List.set_cons_zero, List.set_cons_succ, i64_w, i32_w]
             rfl
            refine pure_ (i := 4) (N := some 79) (v := ?_) (a' := ?_) #[true, true, true, true, true, false, false, false, false, false, false, false, false, false, false, false, false, false, false, false, false, false, false, false, false, false] rfl rfl (any_of HT_.out (by kernel_rfl)) (fun _ _ _ h => h) (Or.inl ⟨by rfl, ?_⟩) ?_ ?_
            rotate_left
            ·
             intro w'
             go_simp
             with_reducible rfl
            rotate_left
            ·
             simp only [Act.put, List.setIfInBounds_toArray, List.set_cons_zero, List.set_cons_succ, i64_w, i32_w]
             rfl
            refine pure_ (i := 5) (N := some 80) (v := ?_) (a' := ?_) #[true, true, true, true, true, true, false, false, false, false, false, false, false, false, false, false, false, false, false, false, false, false, false, false, false, false] rfl rfl (any_of HT_.out (by kernel_rfl)) (fun _ _ _ h => h) (Or.inl ⟨by rfl, ?_⟩) ?_ ?_
            rotate_left
            ·
             intro w'
             go_simp
             with_reducible rfl
            rotate_left
            ·
             simp only [Act.put, List.setIfInBounds_toArray, List.set_cons_zero, List.set_cons_succ, i64_w, i32_w]
             rfl
            refine pure_ (i := 6) (N := some 81) (v := ?_) (a' := ?_) #[true, true, true, true, true, true, true, false, false, false, false, false, false, false, false, false, false, false, false, false, false, false, false, false, false, false] rfl rfl (any_of HT_.out (by kernel_rfl)) (fun _ _ _ h => h) (Or.inl ⟨by rfl, ?_⟩) ?_ ?_
            rotate_left
            ·
             intro w'
             go_simp
             with_reducible rfl
            rotate_left
            ·
             simp only [Act.put, List.setIfInBounds_toArray, List.set_cons_zero, List.set_cons_succ, i64_w, i32_w]
             rfl
            refine pure_ (i := 7) (N := some 82) (v := ?_) (a' := ?_) #[true, true, true, true, true, true, true, true, false, false, false, false, false, false, false, false, false, false, false, false, false, false, false, false, false, false] rfl rfl (any_of HT_.out (by kernel_rfl)) (fun _ _ _ h => h) (Or.inl ⟨by rfl, ?_⟩) ?_ ?_
            rotate_left
            ·
             intro w'
             go_simp
             with_reducible rfl
            rotate_left
            ·
             simp only [Act.put, List.setIfInBounds_toArray, List.set_cons_zero, List.set_cons_succ, i64_w, i32_w]
             rfl
            refine take_ (i := 8) (N := some 83) (v := ?_) (a' := ?_) #[true, true, true, true, true, true, true, true, true, false, false, false, false, false, false, false, false, false, false, false, false, false, false, false, false, false] rfl rfl (take_ofW HT_.out HW_.out (by kernel_rfl)) (fun _ _ _ h => h) (Or.inl ⟨by rfl, ?_⟩) hHeld ?_ ?_
            rotate_left
            ·
             rintro w' ⟨s0, s1, s2, s3, s4, s5⟩
             go_simp
             with_reducible rfl
            rotate_left
            ·
             simp only [Act.put, List.setIfInBounds_toArray, List.set_cons_zero, List.set_cons_succ, i64_w, i32_w]
             rfl
            refine take_ (i := 10) (N := some 85) (v := ?_) (a' := ?_) #[true, true, true, true, true, true, true, true, true, false, true, false, false, false, false, false, false, false, false, false, false, false, false, false, false, false] rfl rfl (take_ofW HT_.out HW_.out (by kernel_rfl)) (fun _ _ _ h => h) (Or.inl ⟨by rfl, ?_⟩) hHeld ?_ ?_
            rotate_left
            ·
             rintro w' ⟨s0, s1, s2, s3, s4, s5⟩
             go_simp
             with_reducible rfl
            rotate_left
            ·
             simp only [Act.put, List.setIfInBounds_toArray, List.set_cons_zero, List.set_cons_succ, i64_w, i32_w]
             rfl
            refine one_ (i := 9) (N := some 84) #[true, true, true, true, true, true, true, true, true, true, true, false, false, false, false, false, false, false, false, false, false, false, false, false, false, false] rfl rfl (one_of HT_.out (by kernel_rfl)) (by decide) (fun K hK => ?_)
            refine goes_ Try.func44 (by kernel_rfl) rfl #[.agg #[.int .i64 a0_4, .string a0_5, .slice A0_6 l0_6.length c0_6]] (by rfl) rfl rfl (by (try simp only [List.map_toArray, List.map_cons, List.map_nil]); first | done | rfl | (simp only [List.length_drop, List.length_take]; rfl)) ?_
            with_reducible refine (cut_Digest.calls a0_4 a0_5 _ _ l0_6 t267 _ ?side1 ?side2 A123.out).mono ?_
            (case side1 => repeat (first | exact (Kd.C_below HR0_6.out HB.out) | (with_reducible refine Kd.C_alloc ?_ _) | (with_reducible refine Kd.C_drewN ?_ _) | (with_reducible refine Kd.C_drew ?_)))
            (case side2 => exact HC0_6.out)
            rintro e w129 ⟨rfl, hb⟩
            refine ⟨_, rfl, ?_⟩
            have n0_ := Aside0.mk (Kd.V_below (Kd.pV HO_236002.out) hb)
            have n1_ := Aside0.mk (Kd.V_below (Kd.pV HO_245002.out) hb)
            have n2_ := Aside0.mk (Kd.V_below (Kd.pV HO_254002.out) hb)
            have n3_ := Aside0.mk (Kd.V_below (Kd.pV HO_263002.out) hb)
            have n4_ := Aside0.mk (blk_below (g := gb223) (o := .cells #[.int .i64 a0_0, .string a0_1, .slice A0_2 l0_2.length c0_2, .slice A0_3 l0_3.length c0_3, .int .i64 a0_4, .string a0_5, .slice A0_6 l0_6.length c0_6, .string a0_7] 42 (0, 0)) (pB BK223.out) hb)
            have n5_ := Aside0.mk (blk_below (g := gb224) (o := .cells #[.int .i64 a0_0, .string a0_1, .slice A0_2 l0_2.length c0_2] 39 (0, 0)) (pB BK224.out) hb)
            have n6_ := Aside0.mk (blk_below (g := gb225) (o := .cells #[.int .i64 a0_4, .string a0_5, .slice A0_6 l0_6.length c0_6] 40 (0, 0)) (pB BK225.out) hb)
            have n7_ := Aside0.mk (blk_below (g := gb235) (o := .cells #[.int .i64 t227, .string t228, .slice Ao35 t229.length co35] 39 (0, 0)) (pB BK235.out) hb)
            have n8_ := Aside0.mk (blk_below (g := gb244) (o := .cells #[.int .i64 t236, .string t237, .slice Ao45 t238.length co45] 39 (0, 0)) (pB BK244.out) hb)
            have n9_ := Aside0.mk (blk_below (g := gb253) (o := .cells #[.int .i64 t245, .string t246, .slice Ao56 t247.length co56] 39 (0, 0)) (pB BK253.out) hb)
            have n10_ := Aside0.mk (blk_below (g := gb262) (o := .cells #[.int .i64 t254, .string t255, .slice Ao68 t256.length co68] 39 (0, 0)) (pB BK262.out) hb)
            have n11_ := Aside0.mk (below_step (by repeat (first | (with_reducible first | exact HB.out | apply below_alloc | apply pw_below_drewN | apply below_drew1 | refine below_set ?_ GE223.out | refine below_set ?_ GE224.out | refine below_set ?_ GE225.out | refine below_set ?_ GE235.out | refine below_set ?_ GE244.out | refine below_set ?_ GE253.out | refine below_set ?_ GE262.out) | exact HB.out)) hb)
            clear HO_236002
            clear HO_245002
            clear HO_254002
            clear HO_263002
            clear BK223
            clear BK224
            clear BK225
            clear BK235
            clear BK244
            clear BK253
            clear BK262
            clear HB
            have HO_236002 := n0_
            have HO_245002 := n1_
            have HO_254002 := n2_
            have HO_263002 := n3_
            have BK223 := n4_
            have BK224 := n5_
            have BK225 := n6_
            have BK235 := n7_
            have BK244 := n8_
            have BK253 := n9_
            have BK262 := n10_
            have HB := n11_
            clear n0_ n1_ n2_ n3_ n4_ n5_ n6_ n7_ n8_ n9_ n10_ n11_
            (try clear hb)
            (try clear hb2)
            (try clear hk)
            (try clear hi)
            refine hK.out _ _ ⟨(blk_cell BK225.out 0).trans rfl, (blk_cell BK225.out 1).trans rfl, (blk_cell BK225.out 2).trans rfl, (blk_cell BK224.out 0).trans rfl, (blk_cell BK224.out 1).trans rfl, (blk_cell BK224.out 2).trans rfl⟩ (fun hHeld => ?_)
            clear hK K
            refine norm_ (a' := ?_) ?_ ?_
            rotate_left
            ·
             show Act.put _ (some 84) _ = _
             simp only [Act.put, List.setIfInBounds_toArray, List.set_cons_zero, List.set_cons_succ, i64_w, i32_w]
             rfl
            refine one_ (i := 11) (N := some 86) #[true, true, true, true, true, true, true, true, true, true, true, true, false, false, false, false, false, false, false, false, false, false, false, false, false, false] rfl rfl (one_of HT_.out (by kernel_rfl)) (by decide) (fun K hK => ?_)
            refine goes_ Try.func45 (by kernel_rfl) rfl #[.agg #[.int .i64 a0_4, .string a0_5, .slice A0_6 l0_6.length c0_6]] (by rfl) rfl rfl (by (try simp only [List.map_toArray, List.map_cons, List.map_nil]); first | done | rfl | (simp only [List.length_drop, List.length_take]; rfl)) ?_
            with_reducible refine (selvedgeref15_Digest.calls kj109 a0_4 a0_5 _ _ l0_6 t268 _ ?side1 ?side2 A124.out).mono ?_
            (case side1 => repeat (first | exact (Kd.C_below HR0_6.out HB.out) | (with_reducible refine Kd.C_alloc ?_ _) | (with_reducible refine Kd.C_drewN ?_ _) | (with_reducible refine Kd.C_drew ?_)))
            (case side2 => exact HC0_6.out)
            rintro e w130 ⟨rfl, hb⟩
            refine ⟨_, rfl, ?_⟩
            have n0_ := Aside0.mk (Kd.V_below (Kd.pV HO_236002.out) hb)
            have n1_ := Aside0.mk (Kd.V_below (Kd.pV HO_245002.out) hb)
            have n2_ := Aside0.mk (Kd.V_below (Kd.pV HO_254002.out) hb)
            have n3_ := Aside0.mk (Kd.V_below (Kd.pV HO_263002.out) hb)
            have n4_ := Aside0.mk (blk_below (g := gb223) (o := .cells #[.int .i64 a0_0, .string a0_1, .slice A0_2 l0_2.length c0_2, .slice A0_3 l0_3.length c0_3, .int .i64 a0_4, .string a0_5, .slice A0_6 l0_6.length c0_6, .string a0_7] 42 (0, 0)) (pB BK223.out) hb)
            have n5_ := Aside0.mk (blk_below (g := gb224) (o := .cells #[.int .i64 a0_0, .string a0_1, .slice A0_2 l0_2.length c0_2] 39 (0, 0)) (pB BK224.out) hb)
            have n6_ := Aside0.mk (blk_below (g := gb225) (o := .cells #[.int .i64 a0_4, .string a0_5, .slice A0_6 l0_6.length c0_6] 40 (0, 0)) (pB BK225.out) hb)
            have n7_ := Aside0.mk (blk_below (g := gb235) (o := .cells #[.int .i64 t227, .string t228, .slice Ao35 t229.length co35] 39 (0, 0)) (pB BK235.out) hb)
            have n8_ := Aside0.mk (blk_below (g := gb244) (o := .cells #[.int .i64 t236, .string t237, .slice Ao45 t238.length co45] 39 (0, 0)) (pB BK244.out) hb)
            have n9_ := Aside0.mk (blk_below (g := gb253) (o := .cells #[.int .i64 t245, .string t246, .slice Ao56 t247.length co56] 39 (0, 0)) (pB BK253.out) hb)
            have n10_ := Aside0.mk (blk_below (g := gb262) (o := .cells #[.int .i64 t254, .string t255, .slice Ao68 t256.length co68] 39 (0, 0)) (pB BK262.out) hb)
            have n11_ := Aside0.mk (below_step (by repeat (first | (with_reducible first | exact HB.out | apply below_alloc | apply pw_below_drewN | apply below_drew1 | refine below_set ?_ GE223.out | refine below_set ?_ GE224.out | refine below_set ?_ GE225.out | refine below_set ?_ GE235.out | refine below_set ?_ GE244.out | refine below_set ?_ GE253.out | refine below_set ?_ GE262.out) | exact HB.out)) hb)
            clear HO_236002
            clear HO_245002
            clear HO_254002
            clear HO_263002
            clear BK223
            clear BK224
            clear BK225
            clear BK235
            clear BK244
            clear BK253
            clear BK262
            clear HB
            have HO_236002 := n0_
            have HO_245002 := n1_
            have HO_254002 := n2_
            have HO_263002 := n3_
            have BK223 := n4_
            have BK224 := n5_
            have BK225 := n6_
            have BK235 := n7_
            have BK244 := n8_
            have BK253 := n9_
            have BK262 := n10_
            have HB := n11_
            clear n0_ n1_ n2_ n3_ n4_ n5_ n6_ n7_ n8_ n9_ n10_ n11_
            (try clear hb)
            (try clear hb2)
            (try clear hk)
            (try clear hi)
            refine hK.out _ _ ⟨(blk_cell BK225.out 0).trans rfl, (blk_cell BK225.out 1).trans rfl, (blk_cell BK225.out 2).trans rfl, (blk_cell BK224.out 0).trans rfl, (blk_cell BK224.out 1).trans rfl, (blk_cell BK224.out 2).trans rfl⟩ (fun hHeld => ?_)
            clear hK K
            refine norm_ (a' := ?_) ?_ ?_
            rotate_left
            ·
             show Act.put _ (some 86) _ = _
             simp only [Act.put, List.setIfInBounds_toArray, List.set_cons_zero, List.set_cons_succ, i64_w, i32_w]
             rfl
            refine pure_ (i := 12) (N := some 87) (v := ?_) (a' := ?_) #[true, true, true, true, true, true, true, true, true, true, true, true, true, false, false, false, false, false, false, false, false, false, false, false, false, false] rfl rfl (any_of HT_.out (by kernel_rfl)) (fun _ _ _ h => h) (Or.inl ⟨by rfl, ?_⟩) ?_ ?_
            rotate_left
            ·
             intro w'
             go_simp
             with_reducible rfl
            rotate_left
            ·
             simp only [Act.put, List.setIfInBounds_toArray, List.set_cons_zero, List.set_cons_succ, i64_w, i32_w]
             rfl
            refine pure_ (i := 13) (N := some 88) (v := ?_) (a' := ?_) #[true, true, true, true, true, true, true, true, true, true, true, true, true, true, false, false, false, false, false, false, false, false, false, false, false, false] rfl rfl (any_of HT_.out (by kernel_rfl)) (fun _ _ _ h => h) (Or.inl ⟨by rfl, ?_⟩) ?_ ?_
            rotate_left
            ·
             intro w'
             go_simp
             with_reducible rfl
            rotate_left
            ·
             simp only [Act.put, List.setIfInBounds_toArray, List.set_cons_zero, List.set_cons_succ, i64_w, i32_w]
             rfl
            refine pure_ (i := 14) (N := some 89) (v := ?_) (a' := ?_) #[true, true, true, true, true, true, true, true, true, true, true, true, true, true, true, false, false, false, false, false, false, false, false, false, false, false] rfl rfl (any_of HT_.out (by kernel_rfl)) (fun _ _ _ h => h) (Or.inl ⟨by rfl, ?_⟩) ?_ ?_
            rotate_left
            ·
             intro w'
             go_simp
             with_reducible rfl
            rotate_left
            ·
             simp only [Act.put, List.setIfInBounds_toArray, List.set_cons_zero, List.set_cons_succ, i64_w, i32_w]
             rfl
            refine pure_ (i := 15) (N := some 90) (v := ?_) (a' := ?_) #[true, true, true, true, true, true, true, true, true, true, true, true, true, true, true, true, false, false, false, false, false, false, false, false, false, false] rfl rfl (any_of HT_.out (by kernel_rfl)) (fun _ _ _ h => h) (Or.inl ⟨by rfl, ?_⟩) ?_ ?_
            rotate_left
            ·
             intro w'
             go_simp
             with_reducible rfl
            rotate_left
            ·
             simp only [Act.put, List.setIfInBounds_toArray, List.set_cons_zero, List.set_cons_succ, i64_w, i32_w]
             rfl
            refine pure_ (i := 17) (N := some 92) (v := ?_) (a' := ?_) #[true, true, true, true, true, true, true, true, true, true, true, true, true, true, true, true, false, true, false, false, false, false, false, false, false, false] rfl rfl (any_of HT_.out (by kernel_rfl)) (fun _ _ _ h => h) (Or.inl ⟨by rfl, ?_⟩) ?_ ?_
            rotate_left
            ·
             intro w'
             go_simp
             with_reducible rfl
            rotate_left
            ·
             simp only [Act.put, List.setIfInBounds_toArray, List.set_cons_zero, List.set_cons_succ, i64_w, i32_w]
             rfl
            refine pure_ (i := 19) (N := some 94) (v := ?_) (a' := ?_) #[true, true, true, true, true, true, true, true, true, true, true, true, true, true, true, true, false, true, false, true, false, false, false, false, false, false] rfl rfl (any_of HT_.out (by kernel_rfl)) (fun _ _ _ h => h) (Or.inl ⟨by rfl, ?_⟩) ?_ ?_
            rotate_left
            ·
             intro w'
             go_simp
             with_reducible rfl
            rotate_left
            ·
             simp only [Act.put, List.setIfInBounds_toArray, List.set_cons_zero, List.set_cons_succ, i64_w, i32_w]
             rfl
            refine pure_ (i := 21) (N := some 96) (v := ?_) (a' := ?_) #[true, true, true, true, true, true, true, true, true, true, true, true, true, true, true, true, false, true, false, true, false, true, false, false, false, false] rfl rfl (any_of HT_.out (by kernel_rfl)) (fun _ _ _ h => h) (Or.inl ⟨by rfl, ?_⟩) ?_ ?_
            rotate_left
            ·
             intro w'
             go_simp
             with_reducible rfl
            rotate_left
            ·
             simp only [Act.put, List.setIfInBounds_toArray, List.set_cons_zero, List.set_cons_succ, i64_w, i32_w]
             rfl
            refine take_ (i := 16) (N := some 91) (v := ?_) (a' := ?_) #[true, true, true, true, true, true, true, true, true, true, true, true, true, true, true, true, true, true, false, true, false, true, false, false, false, false] rfl rfl (take_ofW HT_.out HW_.out (by kernel_rfl)) (fun _ _ _ h => h) (Or.inl ⟨by rfl, ?_⟩) hHeld ?_ ?_
            rotate_left
            ·
             rintro w' ⟨s0, s1, s2, s3, s4, s5⟩
             go_simp
             with_reducible rfl
            rotate_left
            ·
             simp only [Act.put, List.setIfInBounds_toArray, List.set_cons_zero, List.set_cons_succ, i64_w, i32_w]
             rfl
            refine take_ (i := 20) (N := some 95) (v := ?_) (a' := ?_) #[true, true, true, true, true, true, true, true, true, true, true, true, true, true, true, true, true, true, false, true, true, true, false, false, false, false] rfl rfl (take_ofW HT_.out HW_.out (by kernel_rfl)) (fun _ _ _ h => h) (Or.inl ⟨by rfl, ?_⟩) hHeld ?_ ?_
            rotate_left
            ·
             rintro w' ⟨s0, s1, s2, s3, s4, s5⟩
             go_simp
             with_reducible rfl
            rotate_left
            ·
             simp only [Act.put, List.setIfInBounds_toArray, List.set_cons_zero, List.set_cons_succ, i64_w, i32_w]
             rfl
            refine one_ (i := 18) (N := some 93) #[true, true, true, true, true, true, true, true, true, true, true, true, true, true, true, true, true, true, true, true, true, true, false, false, false, false] rfl rfl (one_of HT_.out (by kernel_rfl)) (by decide) (fun K hK => ?_)
            refine goes_ Try.func46 (by kernel_rfl) rfl #[.slice A0_2 l0_2.length c0_2, .string a0_7] (by rfl) rfl rfl (by (try simp only [List.map_toArray, List.map_cons, List.map_nil]); first | done | rfl | (simp only [List.length_drop, List.length_take]; rfl)) ?_
            with_reducible refine (cut_Fits.calls kj109 _ _ l0_2 a0_7 t269 _ ?side1 ?side2 A126.out).mono ?_
            (case side1 => repeat (first | exact (Kd.C_below HR0_2.out HB.out) | (with_reducible refine Kd.C_alloc ?_ _) | (with_reducible refine Kd.C_drewN ?_ _) | (with_reducible refine Kd.C_drew ?_)))
            (case side2 => exact HC0_2.out)
            rintro e w131 ⟨rfl, hb⟩
            refine ⟨_, rfl, ?_⟩
            have n0_ := Aside0.mk (Kd.V_below (Kd.pV HO_236002.out) hb)
            have n1_ := Aside0.mk (Kd.V_below (Kd.pV HO_245002.out) hb)
            have n2_ := Aside0.mk (Kd.V_below (Kd.pV HO_254002.out) hb)
            have n3_ := Aside0.mk (Kd.V_below (Kd.pV HO_263002.out) hb)
            have n4_ := Aside0.mk (blk_below (g := gb223) (o := .cells #[.int .i64 a0_0, .string a0_1, .slice A0_2 l0_2.length c0_2, .slice A0_3 l0_3.length c0_3, .int .i64 a0_4, .string a0_5, .slice A0_6 l0_6.length c0_6, .string a0_7] 42 (0, 0)) (pB BK223.out) hb)
            have n5_ := Aside0.mk (blk_below (g := gb224) (o := .cells #[.int .i64 a0_0, .string a0_1, .slice A0_2 l0_2.length c0_2] 39 (0, 0)) (pB BK224.out) hb)
            have n6_ := Aside0.mk (blk_below (g := gb225) (o := .cells #[.int .i64 a0_4, .string a0_5, .slice A0_6 l0_6.length c0_6] 40 (0, 0)) (pB BK225.out) hb)
            have n7_ := Aside0.mk (blk_below (g := gb235) (o := .cells #[.int .i64 t227, .string t228, .slice Ao35 t229.length co35] 39 (0, 0)) (pB BK235.out) hb)
            have n8_ := Aside0.mk (blk_below (g := gb244) (o := .cells #[.int .i64 t236, .string t237, .slice Ao45 t238.length co45] 39 (0, 0)) (pB BK244.out) hb)
            have n9_ := Aside0.mk (blk_below (g := gb253) (o := .cells #[.int .i64 t245, .string t246, .slice Ao56 t247.length co56] 39 (0, 0)) (pB BK253.out) hb)
            have n10_ := Aside0.mk (blk_below (g := gb262) (o := .cells #[.int .i64 t254, .string t255, .slice Ao68 t256.length co68] 39 (0, 0)) (pB BK262.out) hb)
            have n11_ := Aside0.mk (below_step (by repeat (first | (with_reducible first | exact HB.out | apply below_alloc | apply pw_below_drewN | apply below_drew1 | refine below_set ?_ GE223.out | refine below_set ?_ GE224.out | refine below_set ?_ GE225.out | refine below_set ?_ GE235.out | refine below_set ?_ GE244.out | refine below_set ?_ GE253.out | refine below_set ?_ GE262.out) | exact HB.out)) hb)
            clear HO_236002
            clear HO_245002
            clear HO_254002
            clear HO_263002
            clear BK223
            clear BK224
            clear BK225
            clear BK235
            clear BK244
            clear BK253
            clear BK262
            clear HB
            have HO_236002 := n0_
            have HO_245002 := n1_
            have HO_254002 := n2_
            have HO_263002 := n3_
            have BK223 := n4_
            have BK224 := n5_
            have BK225 := n6_
            have BK235 := n7_
            have BK244 := n8_
            have BK253 := n9_
            have BK262 := n10_
            have HB := n11_
            clear n0_ n1_ n2_ n3_ n4_ n5_ n6_ n7_ n8_ n9_ n10_ n11_
            (try clear hb)
            (try clear hb2)
            (try clear hk)
            (try clear hi)
            refine hK.out _ _ ⟨(blk_cell BK225.out 0).trans rfl, (blk_cell BK225.out 1).trans rfl, (blk_cell BK225.out 2).trans rfl, (blk_cell BK224.out 0).trans rfl, (blk_cell BK224.out 1).trans rfl, (blk_cell BK224.out 2).trans rfl⟩ (fun hHeld => ?_)
            clear hK K
            refine norm_ (a' := ?_) ?_ ?_
            rotate_left
            ·
             show Act.put _ (some 93) _ = _
             simp only [Act.put, List.setIfInBounds_toArray, List.set_cons_zero, List.set_cons_succ, i64_w, i32_w]
             rfl
            refine one_ (i := 22) (N := some 97) #[true, true, true, true, true, true, true, true, true, true, true, true, true, true, true, true, true, true, true, true, true, true, true, false, false, false] rfl rfl (one_of HT_.out (by kernel_rfl)) (by decide) (fun K hK => ?_)
            refine goes_ Try.func47 (by kernel_rfl) rfl #[.slice A0_2 l0_2.length c0_2, .string a0_7] (by rfl) rfl rfl (by (try simp only [List.map_toArray, List.map_cons, List.map_nil]); first | done | rfl | (simp only [List.length_drop, List.length_take]; rfl)) ?_
            with_reducible refine (selvedgeref15_Fits.calls kj109 _ _ l0_2 a0_7 t270 _ ?side1 ?side2 A127.out).mono ?_
            (case side1 => repeat (first | exact (Kd.C_below HR0_2.out HB.out) | (with_reducible refine Kd.C_alloc ?_ _) | (with_reducible refine Kd.C_drewN ?_ _) | (with_reducible refine Kd.C_drew ?_)))
            (case side2 => exact HC0_2.out)
            rintro e w' ⟨rfl, ⟨nd, rfl⟩⟩
            refine ⟨_, rfl, ?_⟩
            refine hK.out _ _ ⟨(blk_cell BK225.out 0).trans rfl, (blk_cell BK225.out 1).trans rfl, (blk_cell BK225.out 2).trans rfl, (blk_cell BK224.out 0).trans rfl, (blk_cell BK224.out 1).trans rfl, (blk_cell BK224.out 2).trans rfl⟩ (fun hHeld => ?_)
            clear hK K
            refine norm_ (a' := ?_) ?_ ?_
            rotate_left
            ·
             show Act.put _ (some 97) _ = _
             simp only [Act.put, List.setIfInBounds_toArray, List.set_cons_zero, List.set_cons_succ, i64_w, i32_w]
             rfl
            refine pure_ (i := 23) (N := some 98) (v := ?_) (a' := ?_) #[true, true, true, true, true, true, true, true, true, true, true, true, true, true, true, true, true, true, true, true, true, true, true, true, false, false] rfl rfl (any_of HT_.out (by kernel_rfl)) (fun _ _ _ h => h) (Or.inl ⟨by rfl, ?_⟩) ?_ ?_
            rotate_left
            ·
             intro w'
             go_simp
             with_reducible rfl
            rotate_left
            ·
             simp only [Act.put, List.setIfInBounds_toArray, List.set_cons_zero, List.set_cons_succ, i64_w, i32_w]
             rfl
            refine pure_ (i := 24) (N := some 99) (v := ?_) (a' := ?_) #[true, true, true, true, true, true, true, true, true, true, true, true, true, true, true, true, true, true, true, true, true, true, true, true, true, false] rfl rfl (any_of HT_.out (by kernel_rfl)) (fun _ _ _ h => h) (Or.inl ⟨by rfl, ?_⟩) ?_ ?_
            rotate_left
            ·
             intro w'
             go_simp
             with_reducible rfl
            rotate_left
            ·
             simp only [Act.put, List.setIfInBounds_toArray, List.set_cons_zero, List.set_cons_succ, i64_w, i32_w]
             rfl
            refine pure_ (i := 25) (N := some 2) (v := ?_) (a' := ?_) #[true, true, true, true, true, true, true, true, true, true, true, true, true, true, true, true, true, true, true, true, true, true, true, true, true, true] rfl rfl (any_of HT_.out (by kernel_rfl)) (fun _ _ _ h => h) (Or.inl ⟨by rfl, ?_⟩) ?_ ?_
            rotate_left
            ·
             intro w'
             go_simp
             with_reducible rfl
            rotate_left
            ·
             simp only [Act.put, List.setIfInBounds_toArray, List.set_cons_zero, List.set_cons_succ, i64_w, i32_w]
             rfl
            refine done_ (done_of HT_.out (by kernel_rfl)) ?_
            try go_wp2
            go_ret
            exact ⟨by first | rfl | (simp [errW_none, errW_some] <;> rfl) | (simp [*, errW_none, errW_some] <;> rfl), by repeat (first | (with_reducible first | exact HB.out | apply below_alloc | apply pw_below_drewN | apply below_drew1 | refine below_set ?_ GE223.out | refine below_set ?_ GE224.out | refine below_set ?_ GE225.out | refine below_set ?_ GE235.out | refine below_set ?_ GE244.out | refine below_set ?_ GE253.out | refine below_set ?_ GE262.out) | exact HB.out)⟩
           ·
            rw [if_neg c125] at H
            have c125b0 : (t267.toList == t268.toList) = false := beq_eq_false_iff_ne.mpr c125
            have c125b1 : (t267.toList != t268.toList) = true := bne_iff_ne.mpr c125
            obtain rfl := Option.some.inj H
            try go_wp2
            have n0_ := Aside0.mk (Kd.V_drew HO_236002.out)
            have n1_ := Aside0.mk (Kd.V_drew HO_245002.out)
            have n2_ := Aside0.mk (Kd.V_drew HO_254002.out)
            have n3_ := Aside0.mk (Kd.V_drew HO_263002.out)
            have n4_ := Aside0.mk (blk_drew BK223.out)
            have n5_ := Aside0.mk (blk_drew BK224.out)
            have n6_ := Aside0.mk (blk_drew BK225.out)
            have n7_ := Aside0.mk (blk_drew BK235.out)
            have n8_ := Aside0.mk (blk_drew BK244.out)
            have n9_ := Aside0.mk (blk_drew BK253.out)
            have n10_ := Aside0.mk (blk_drew BK262.out)
            have n11_ := Aside0.mk (below_drew1 HB.out)
            clear HO_236002
            clear HO_245002
            clear HO_254002
            clear HO_263002
            clear BK223
            clear BK224
            clear BK225
            clear BK235
            clear BK244
            clear BK253
            clear BK262
            clear HB
            have HO_236002 := n0_
            have HO_245002 := n1_
            have HO_254002 := n2_
            have HO_263002 := n3_
            have BK223 := n4_
            have BK224 := n5_
            have BK225 := n6_
            have BK235 := n7_
            have BK244 := n8_
            have BK253 := n9_
            have BK262 := n10_
            have HB := n11_
            clear n0_ n1_ n2_ n3_ n4_ n5_ n6_ n7_ n8_ n9_ n10_ n11_
            refine start_ (n := 26) (S := fun w' => w'.cell? ⟨gb225, 0, none⟩ = some (.int .i64 a0_4) ∧ w'.cell? ⟨gb225, 1, none⟩ = some (.string a0_5) ∧ w'.cell? ⟨gb225, 2, none⟩ = some (.slice A0_6 l0_6.length c0_6)) (ds := []) #[false, false, false, false, false, false, false, false, false, false, false, false, false, false, false, false, false, false, false, false, false, false, false, false, false, false] (by kernel_rfl) rfl rfl ⟨(blk_cell BK225.out 0).trans rfl, (blk_cell BK225.out 1).trans rfl, (blk_cell BK225.out 2).trans rfl⟩ (fun hHeld => ?_); refine with_tabW selvedgelaw15_CutFeeds.tab14 selvedgelaw15_CutFeeds.bits14 (fun HT_ HW_ => ?_)
            generalize wc.drew = w132 at HO_236002 HO_245002 HO_254002 HO_263002 BK223 BK224 BK225 BK235 BK244 BK253 BK262 HB hHeld ⊢
            refine pure_ (i := 0) (N := some 75) (v := ?_) (a' := ?_) #[true, false, false, false, false, false, false, false, false, false, false, false, false, false, false, false, false, false, false, false, false, false, false, false, false, false] rfl rfl (any_of HT_.out (by kernel_rfl)) (fun _ _ _ h => h) (Or.inl ⟨by rfl, ?_⟩) ?_ ?_
            rotate_left
            ·
             intro w'
             go_simp
             with_reducible rfl
            rotate_left
            ·
             simp only [Act.put, List.setIfInBounds_toArray, List.set_cons_zero, List.set_cons_succ, i64_w, i32_w]
             rfl
            refine pure_ (i := 1) (N := some 76) (v := ?_) (a' := ?_) #[true, true, false, false, false, false, false, false, false, false, false, false, false, false, false, false, false, false, false, false, false, false, false, false, false, false] rfl rfl (any_of HT_.out (by kernel_rfl)) (fun _ _ _ h => h) (Or.inl ⟨by rfl, ?_⟩) ?_ ?_
            rotate_left
            ·
             intro w'
             go_simp
             with_reducible rfl
            rotate_left
            ·
             simp only [Act.put, List.setIfInBounds_toArray, List.set_cons_zero, List.set_cons_succ, i64_w, i32_w]
             rfl
            refine pure_ (i := 2) (N := some 77) (v := ?_) (a' := ?_) #[true, true, true, false, false, false, false, false, false, false, false, false, false, false, false, false, false, false, false, false, false, false, false, false, false, false] rfl rfl (any_of HT_.out (by kernel_rfl)) (fun _ _ _ h => h) (Or.inl ⟨by rfl, ?_⟩) ?_ ?_
            rotate_left
            ·
             intro w'
             go_simp
             with_reducible rfl
            rotate_left
            ·
             simp only [Act.put, List.setIfInBounds_toArray, List.set_cons_zero, List.set_cons_succ, i64_w, i32_w]
             rfl
            refine pure_ (i := 3) (N := some 78) (v := ?_) (a' := ?_) #[true, true, true, true, false, false, false, false, false, false, false, false, false, false, false, false, false, false, false, false, false, false, false, false, false, false] rfl rfl (any_of HT_.out (by kernel_rfl)) (fun _ _ _ h => h) (Or.inl ⟨by rfl, ?_⟩) ?_ ?_
            rotate_left
            ·
             intro w'
             go_simp
             with_reducible rfl
            rotate_left
            ·
             simp only [Act.put, List.setIfInBounds_toArray, List.set_cons_zero, List.set_cons_succ, i64_w, i32_w]
             rfl
            refine pure_ (i := 4) (N := some 79) (v := ?_) (a' := ?_) #[true, true, true, true, true, false, false, false, false, false, false, false, false, false, false, false, false, false, false, false, false, false, false, false, false, false] rfl rfl (any_of HT_.out (by kernel_rfl)) (fun _ _ _ h => h) (Or.inl ⟨by rfl, ?_⟩) ?_ ?_
            rotate_left
            ·
             intro w'
             go_simp
             with_reducible rfl
            rotate_left
            ·
             simp only [Act.put, List.setIfInBounds_toArray, List.set_cons_zero, List.set_cons_succ, i64_w, i32_w]
             rfl
            refine pure_ (i := 5) (N := some 80) (v := ?_) (a' := ?_) #[true, true, true, true, true, true, false, false, false, false, false, false, false, false, false, false, false, false, false, false, false, false, false, false, false, false] rfl rfl (any_of HT_.out (by kernel_rfl)) (fun _ _ _ h => h) (Or.inl ⟨by rfl, ?_⟩) ?_ ?_
            rotate_left
            ·
             intro w'
             go_simp
             with_reducible rfl
            rotate_left
            ·
             simp only [Act.put, List.setIfInBounds_toArray, List.set_cons_zero, List.set_cons_succ, i64_w, i32_w]
             rfl
            refine pure_ (i := 6) (N := some 81) (v := ?_) (a' := ?_) #[true, true, true, true, true, true, true, false, false, false, false, false, false, false, false, false, false, false, false, false, false, false, false, false, false, false] rfl rfl (any_of HT_.out (by kernel_rfl)) (fun _ _ _ h => h) (Or.inl ⟨by rfl, ?_⟩) ?_ ?_
            rotate_left
            ·
             intro w'
             go_simp
             with_reducible rfl
            rotate_left
            ·
             simp only [Act.put, List.setIfInBounds_toArray, List.set_cons_zero, List.set_cons_succ, i64_w, i32_w]
             rfl
            refine pure_ (i := 7) (N := some 82) (v := ?_) (a' := ?_) #[true, true, true, true, true, true, true, true, false, false, false, false, false, false, false, false, false, false, false, false, false, false, false, false, false, false] rfl rfl (any_of HT_.out (by kernel_rfl)) (fun _ _ _ h => h) (Or.inl ⟨by rfl, ?_⟩) ?_ ?_
            rotate_left
            ·
             intro w'
             go_simp
             with_reducible rfl
            rotate_left
            ·
             simp only [Act.put, List.setIfInBounds_toArray, List.set_cons_zero, List.set_cons_succ, i64_w, i32_w]
             rfl
            refine take_ (i := 8) (N := some 83) (v := ?_) (a' := ?_) #[true, true, true, true, true, true, true, true, true, false, false, false, false, false, false, false, false, false, false, false, false, false, false, false, false, false] rfl rfl (take_ofW HT_.out HW_.out (by kernel_rfl)) (fun _ _ _ h => h) (Or.inl ⟨by rfl, ?_⟩) hHeld ?_ ?_
            rotate_left
            ·
             rintro w' ⟨s0, s1, s2⟩
             go_simp
             with_reducible rfl
            rotate_left
            ·
             simp only [Act.put, List.setIfInBounds_toArray, List.set_cons_zero, List.set_cons_succ, i64_w, i32_w]
             rfl
            refine take_ (i := 10) (N := some 85) (v := ?_) (a' := ?_) #[true, true, true, true, true, true, true, true, true, false, true, false, false, false, false, false, false, false, false, false, false, false, false, false, false, false] rfl rfl (take_ofW HT_.out HW_.out (by kernel_rfl)) (fun _ _ _ h => h) (Or.inl ⟨by rfl, ?_⟩) hHeld ?_ ?_
            rotate_left
            ·
             rintro w' ⟨s0, s1, s2⟩
             go_simp
             with_reducible rfl
            rotate_left
            ·
             simp only [Act.put, List.setIfInBounds_toArray, List.set_cons_zero, List.set_cons_succ, i64_w, i32_w]
             rfl
            refine one_ (i := 9) (N := some 84) #[true, true, true, true, true, true, true, true, true, true, true, false, false, false, false, false, false, false, false, false, false, false, false, false, false, false] rfl rfl (one_of HT_.out (by kernel_rfl)) (by decide) (fun K hK => ?_)
            refine goes_ Try.func44 (by kernel_rfl) rfl #[.agg #[.int .i64 a0_4, .string a0_5, .slice A0_6 l0_6.length c0_6]] (by rfl) rfl rfl (by (try simp only [List.map_toArray, List.map_cons, List.map_nil]); first | done | rfl | (simp only [List.length_drop, List.length_take]; rfl)) ?_
            with_reducible refine (cut_Digest.calls a0_4 a0_5 _ _ l0_6 t267 _ ?side1 ?side2 A123.out).mono ?_
            (case side1 => repeat (first | exact (Kd.C_below HR0_6.out HB.out) | (with_reducible refine Kd.C_alloc ?_ _) | (with_reducible refine Kd.C_drewN ?_ _) | (with_reducible refine Kd.C_drew ?_)))
            (case side2 => exact HC0_6.out)
            rintro e w133 ⟨rfl, hb⟩
            refine ⟨_, rfl, ?_⟩
            have n0_ := Aside0.mk (Kd.V_below (Kd.pV HO_236002.out) hb)
            have n1_ := Aside0.mk (Kd.V_below (Kd.pV HO_245002.out) hb)
            have n2_ := Aside0.mk (Kd.V_below (Kd.pV HO_254002.out) hb)
            have n3_ := Aside0.mk (Kd.V_below (Kd.pV HO_263002.out) hb)
            have n4_ := Aside0.mk (blk_below (g := gb223) (o := .cells #[.int .i64 a0_0, .string a0_1, .slice A0_2 l0_2.length c0_2, .slice A0_3 l0_3.length c0_3, .int .i64 a0_4, .string a0_5, .slice A0_6 l0_6.length c0_6, .string a0_7] 42 (0, 0)) (pB BK223.out) hb)
            have n5_ := Aside0.mk (blk_below (g := gb224) (o := .cells #[.int .i64 a0_0, .string a0_1, .slice A0_2 l0_2.length c0_2] 39 (0, 0)) (pB BK224.out) hb)
            have n6_ := Aside0.mk (blk_below (g := gb225) (o := .cells #[.int .i64 a0_4, .string a0_5, .slice A0_6 l0_6.length c0_6] 40 (0, 0)) (pB BK225.out) hb)
            have n7_ := Aside0.mk (blk_below (g := gb235) (o := .cells #[.int .i64 t227, .string t228, .slice Ao35 t229.length co35] 39 (0, 0)) (pB BK235.out) hb)
            have n8_ := Aside0.mk (blk_below (g := gb244) (o := .cells #[.int .i64 t236, .string t237, .slice Ao45 t238.length co45] 39 (0, 0)) (pB BK244.out) hb)
            have n9_ := Aside0.mk (blk_below (g := gb253) (o := .cells #[.int .i64 t245, .string t246, .slice Ao56 t247.length co56] 39 (0, 0)) (pB BK253.out) hb)
            have n10_ := Aside0.mk (blk_below (g := gb262) (o := .cells #[.int .i64 t254, .string t255, .slice Ao68 t256.length co68] 39 (0, 0)) (pB BK262.out) hb)
            have n11_ := Aside0.mk (below_step (by repeat (first | (with_reducible first | exact HB.out | apply below_alloc | apply pw_below_drewN | apply below_drew1 | refine below_set ?_ GE223.out | refine below_set ?_ GE224.out | refine below_set ?_ GE225.out | refine below_set ?_ GE235.out | refine below_set ?_ GE244.out | refine below_set ?_ GE253.out | refine below_set ?_ GE262.out) | exact HB.out)) hb)
            clear HO_236002
            clear HO_245002
            clear HO_254002
            clear HO_263002
            clear BK223
            clear BK224
            clear BK225
            clear BK235
            clear BK244
            clear BK253
            clear BK262
            clear HB
            have HO_236002 := n0_
            have HO_245002 := n1_
            have HO_254002 := n2_
            have HO_263002 := n3_
            have BK223 := n4_
            have BK224 := n5_
            have BK225 := n6_
            have BK235 := n7_
            have BK244 := n8_
            have BK253 := n9_
            have BK262 := n10_
            have HB := n11_
            clear n0_ n1_ n2_ n3_ n4_ n5_ n6_ n7_ n8_ n9_ n10_ n11_
            (try clear hb)
            (try clear hb2)
            (try clear hk)
            (try clear hi)
            refine hK.out _ _ ⟨(blk_cell BK225.out 0).trans rfl, (blk_cell BK225.out 1).trans rfl, (blk_cell BK225.out 2).trans rfl⟩ (fun hHeld => ?_)
            clear hK K
            refine norm_ (a' := ?_) ?_ ?_
            rotate_left
            ·
             show Act.put _ (some 84) _ = _
             simp only [Act.put, List.setIfInBounds_toArray, List.set_cons_zero, List.set_cons_succ, i64_w, i32_w]
             rfl
            refine one_ (i := 11) (N := some 86) #[true, true, true, true, true, true, true, true, true, true, true, true, false, false, false, false, false, false, false, false, false, false, false, false, false, false] rfl rfl (one_of HT_.out (by kernel_rfl)) (by decide) (fun K hK => ?_)
            refine goes_ Try.func45 (by kernel_rfl) rfl #[.agg #[.int .i64 a0_4, .string a0_5, .slice A0_6 l0_6.length c0_6]] (by rfl) rfl rfl (by (try simp only [List.map_toArray, List.map_cons, List.map_nil]); first | done | rfl | (simp only [List.length_drop, List.length_take]; rfl)) ?_
            with_reducible refine (selvedgeref15_Digest.calls kj109 a0_4 a0_5 _ _ l0_6 t268 _ ?side1 ?side2 A124.out).mono ?_
            (case side1 => repeat (first | exact (Kd.C_below HR0_6.out HB.out) | (with_reducible refine Kd.C_alloc ?_ _) | (with_reducible refine Kd.C_drewN ?_ _) | (with_reducible refine Kd.C_drew ?_)))
            (case side2 => exact HC0_6.out)
            rintro e w134 ⟨rfl, hb⟩
            refine ⟨_, rfl, ?_⟩
            have n0_ := Aside0.mk (Kd.V_below (Kd.pV HO_236002.out) hb)
            have n1_ := Aside0.mk (Kd.V_below (Kd.pV HO_245002.out) hb)
            have n2_ := Aside0.mk (Kd.V_below (Kd.pV HO_254002.out) hb)
            have n3_ := Aside0.mk (Kd.V_below (Kd.pV HO_263002.out) hb)
            have n4_ := Aside0.mk (blk_below (g := gb223) (o := .cells #[.int .i64 a0_0, .string a0_1, .slice A0_2 l0_2.length c0_2, .slice A0_3 l0_3.length c0_3, .int .i64 a0_4, .string a0_5, .slice A0_6 l0_6.length c0_6, .string a0_7] 42 (0, 0)) (pB BK223.out) hb)
            have n5_ := Aside0.mk (blk_below (g := gb224) (o := .cells #[.int .i64 a0_0, .string a0_1, .slice A0_2 l0_2.length c0_2] 39 (0, 0)) (pB BK224.out) hb)
            have n6_ := Aside0.mk (blk_below (g := gb225) (o := .cells #[.int .i64 a0_4, .string a0_5, .slice A0_6 l0_6.length c0_6] 40 (0, 0)) (pB BK225.out) hb)
            have n7_ := Aside0.mk (blk_below (g := gb235) (o := .cells #[.int .i64 t227, .string t228, .slice Ao35 t229.length co35] 39 (0, 0)) (pB BK235.out) hb)
            have n8_ := Aside0.mk (blk_below (g := gb244) (o := .cells #[.int .i64 t236, .string t237, .slice Ao45 t238.length co45] 39 (0, 0)) (pB BK244.out) hb)
            have n9_ := Aside0.mk (blk_below (g := gb253) (o := .cells #[.int .i64 t245, .string t246, .slice Ao56 t247.length co56] 39 (0, 0)) (pB BK253.out) hb)
            have n10_ := Aside0.mk (blk_below (g := gb262) (o := .cells #[.int .i64 t254, .string t255, .slice Ao68 t256.length co68] 39 (0, 0)) (pB BK262.out) hb)
            have n11_ := Aside0.mk (below_step (by repeat (first | (with_reducible first | exact HB.out | apply below_alloc | apply pw_below_drewN | apply below_drew1 | refine below_set ?_ GE223.out | refine below_set ?_ GE224.out | refine below_set ?_ GE225.out | refine below_set ?_ GE235.out | refine below_set ?_ GE244.out | refine below_set ?_ GE253.out | refine below_set ?_ GE262.out) | exact HB.out)) hb)
            clear HO_236002
            clear HO_245002
            clear HO_254002
            clear HO_263002
            clear BK223
            clear BK224
            clear BK225
            clear BK235
            clear BK244
            clear BK253
            clear BK262
            clear HB
            have HO_236002 := n0_
            have HO_245002 := n1_
            have HO_254002 := n2_
            have HO_263002 := n3_
            have BK223 := n4_
            have BK224 := n5_
            have BK225 := n6_
            have BK235 := n7_
            have BK244 := n8_
            have BK253 := n9_
            have BK262 := n10_
            have HB := n11_
            clear n0_ n1_ n2_ n3_ n4_ n5_ n6_ n7_ n8_ n9_ n10_ n11_
            (try clear hb)
            (try clear hb2)
            (try clear hk)
            (try clear hi)
            refine hK.out _ _ ⟨(blk_cell BK225.out 0).trans rfl, (blk_cell BK225.out 1).trans rfl, (blk_cell BK225.out 2).trans rfl⟩ (fun hHeld => ?_)
            clear hK K
            refine norm_ (a' := ?_) ?_ ?_
            rotate_left
            ·
             show Act.put _ (some 86) _ = _
             simp only [Act.put, List.setIfInBounds_toArray, List.set_cons_zero, List.set_cons_succ, i64_w, i32_w]
             rfl
            refine pure_ (i := 12) (N := some 87) (v := ?_) (a' := ?_) #[true, true, true, true, true, true, true, true, true, true, true, true, true, false, false, false, false, false, false, false, false, false, false, false, false, false] rfl rfl (any_of HT_.out (by kernel_rfl)) (fun _ _ _ h => h) (Or.inl ⟨by rfl, ?_⟩) ?_ ?_
            rotate_left
            ·
             intro w'
             go_simp
             with_reducible rfl
            rotate_left
            ·
             simp only [Act.put, List.setIfInBounds_toArray, List.set_cons_zero, List.set_cons_succ, i64_w, i32_w]
             rfl
            refine pure_ (i := 13) (N := some 88) (v := ?_) (a' := ?_) #[true, true, true, true, true, true, true, true, true, true, true, true, true, true, false, false, false, false, false, false, false, false, false, false, false, false] rfl rfl (any_of HT_.out (by kernel_rfl)) (fun _ _ _ h => h) (Or.inl ⟨by rfl, ?_⟩) ?_ ?_
            rotate_left
            ·
             intro w'
             go_simp
             with_reducible rfl
            rotate_left
            ·
             simp only [Act.put, List.setIfInBounds_toArray, List.set_cons_zero, List.set_cons_succ, i64_w, i32_w]
             rfl
            refine pure_ (i := 14) (N := some 89) (v := ?_) (a' := ?_) #[true, true, true, true, true, true, true, true, true, true, true, true, true, true, true, false, false, false, false, false, false, false, false, false, false, false] rfl rfl (any_of HT_.out (by kernel_rfl)) (fun _ _ _ h => h) (Or.inl ⟨by rfl, ?_⟩) ?_ ?_
            rotate_left
            ·
             intro w'
             go_simp
             with_reducible rfl
            rotate_left
            ·
             simp only [Act.put, List.setIfInBounds_toArray, List.set_cons_zero, List.set_cons_succ, i64_w, i32_w]
             rfl
            refine pure_ (i := 15) (N := some 90) (v := undef) (a' := ?_) #[true, true, true, true, true, true, true, true, true, true, true, true, true, true, true, true, false, false, false, false, false, false, false, false, false, false] rfl rfl (any_of HT_.out (by kernel_rfl)) (fun _ _ _ h => h) (Or.inr ⟨by rfl, rfl⟩) ?_ ?_
            rotate_left
            ·
             simp only [Act.put, List.setIfInBounds_toArray, List.set_cons_zero, List.set_cons_succ, i64_w, i32_w]
             rfl
            refine pure_ (i := 16) (N := some 91) (v := undef) (a' := ?_) #[true, true, true, true, true, true, true, true, true, true, true, true, true, true, true, true, true, false, false, false, false, false, false, false, false, false] rfl rfl (any_of HT_.out (by kernel_rfl)) (fun _ _ _ h => h) (Or.inr ⟨by rfl, rfl⟩) ?_ ?_
            rotate_left
            ·
             simp only [Act.put, List.setIfInBounds_toArray, List.set_cons_zero, List.set_cons_succ, i64_w, i32_w]
             rfl
            refine pure_ (i := 17) (N := some 92) (v := undef) (a' := ?_) #[true, true, true, true, true, true, true, true, true, true, true, true, true, true, true, true, true, true, false, false, false, false, false, false, false, false] rfl rfl (any_of HT_.out (by kernel_rfl)) (fun _ _ _ h => h) (Or.inr ⟨by rfl, rfl⟩) ?_ ?_
            rotate_left
            ·
             simp only [Act.put, List.setIfInBounds_toArray, List.set_cons_zero, List.set_cons_succ, i64_w, i32_w]
             rfl
            refine pure_ (i := 18) (N := some 93) (v := undef) (a' := ?_) #[true, true, true, true, true, true, true, true, true, true, true, true, true, true, true, true, true, true, true, false, false, false, false, false, false, false] rfl rfl (any_of HT_.out (by kernel_rfl)) (fun _ _ _ h => h) (Or.inr ⟨by rfl, rfl⟩) ?_ ?_
            rotate_left
            ·
             simp only [Act.put, List.setIfInBounds_toArray, List.set_cons_zero, List.set_cons_succ, i64_w, i32_w]
             rfl
            refine pure_ (i := 19) (N := some 94) (v := undef) (a' := ?_) #[true, true, true, true, true, true, true, true, true, true, true, true, true, true, true, true, true, true, true, true, false, false, false, false, false, false] rfl rfl (any_of HT_.out (by kernel_rfl)) (fun _ _ _ h => h) (Or.inr ⟨by rfl, rfl⟩) ?_ ?_
            rotate_left
            ·
             simp only [Act.put, List.setIfInBounds_toArray, List.set_cons_zero, List.set_cons_succ, i64_w, i32_w]
             rfl
            refine pure_ (i := 20) (N := some 95) (v := undef) (a' := ?_) #[true, true, true, true, true, true, true, true, true, true, true, true, true, true, true, true, true, true, true, true, true, false, false, false, false, false] rfl rfl (any_of HT_.out (by kernel_rfl)) (fun _ _ _ h => h) (Or.inr ⟨by rfl, rfl⟩) ?_ ?_
            rotate_left
            ·
             simp only [Act.put, List.setIfInBounds_toArray, List.set_cons_zero, List.set_cons_succ, i64_w, i32_w]
             rfl
            refine pure_ (i := 21) (N := some 96) (v := undef) (a' := ?_) #[true, true, true, true, true, true, true, true, true, true, true, true, true, true, true, true, true, true, true, true, true, true, false, false, false, false] rfl rfl (any_of HT_.out (by kernel_rfl)) (fun _ _ _ h => h) (Or.inr ⟨by rfl, rfl⟩) ?_ ?_
            rotate_left
            ·
             simp only [Act.put, List.setIfInBounds_toArray, List.set_cons_zero, List.set_cons_succ, i64_w, i32_w]
             rfl
            refine pure_ (i := 22) (N := some 97) (v := undef) (a' := ?_) #[true, true, true, true, true, true, true, true, true, true, true, true, true, true, true, true, true, true, true, true, true, true, true, false, false, false] rfl rfl (any_of HT_.out (by kernel_rfl)) (fun _ _ _ h => h) (Or.inr ⟨by rfl, rfl⟩) ?_ ?_
            rotate_left
            ·
             simp only [Act.put, List.setIfInBounds_toArray, List.set_cons_zero, List.set_cons_succ, i64_w, i32_w]
             rfl
            refine pure_ (i := 23) (N := some 98) (v := undef) (a' := ?_) #[true, true, true, true, true, true, true, true, true, true, true, true, true, true, true, true, true, true, true, true, true, true, true, true, false, false] rfl rfl (any_of HT_.out (by kernel_rfl)) (fun _ _ _ h => h) (Or.inr ⟨by rfl, rfl⟩) ?_ ?_
            rotate_left
            ·
             simp only [Act.put, List.setIfInBounds_toArray, List.set_cons_zero, List.set_cons_succ, i64_w, i32_w]
             rfl
            refine pure_ (i := 24) (N := some 99) (v := ?_) (a' := ?_) #[true, true, true, true, true, true, true, true, true, true, true, true, true, true, true, true, true, true, true, true, true, true, true, true, true, false] rfl rfl (any_of HT_.out (by kernel_rfl)) (fun _ _ _ h => h) (Or.inl ⟨by rfl, ?_⟩) ?_ ?_
            rotate_left
            ·
             intro w'
             go_simp
             with_reducible rfl
            rotate_left
            ·
             simp only [Act.put, List.setIfInBounds_toArray, List.set_cons_zero, List.set_cons_succ, i64_w, i32_w]
             rfl
            refine pure_ (i := 25) (N := some 2) (v := ?_) (a' := ?_) #[true, true, true, true, true, true, true, true, true, true, true, true, true, true, true, true, true, true, true, true, true, true, true, true, true, true] rfl rfl (any_of HT_.out (by kernel_rfl)) (fun _ _ _ h => h) (Or.inl ⟨by rfl, ?_⟩) ?_ ?_
            rotate_left
            ·
             intro w'
             go_simp
             with_reducible rfl
            rotate_left
            ·
             simp only [Act.put, List.setIfInBounds_toArray, List.set_cons_zero, List.set_cons_succ, i64_w, i32_w]
             rfl
            refine done_ (done_of HT_.out (by kernel_rfl)) ?_
            try go_wp2
            go_ret
            exact ⟨by first | rfl | (simp [errW_none, errW_some] <;> rfl) | (simp [*, errW_none, errW_some] <;> rfl), by repeat (first | (with_reducible first | exact HB.out | apply below_alloc | apply pw_below_drewN | apply below_drew1 | refine below_set ?_ GE223.out | refine below_set ?_ GE224.out | refine below_set ?_ GE225.out | refine below_set ?_ GE235.out | refine below_set ?_ GE244.out | refine below_set ?_ GE253.out | refine below_set ?_ GE262.out) | exact HB.out)⟩
          ·
           replace c122 := Bool.eq_false_iff.mpr c122
           subst c122
           have H1 : (some false) = some r := by rw [if_neg (show ¬ (false = true) by decide)] at H; exact H
           clear H
           have H := H1
           clear H1
           obtain rfl := Option.some.inj H
           try go_wp2
           have n0_ := Aside0.mk (Kd.V_drew HO_236002.out)
           have n1_ := Aside0.mk (Kd.V_drew HO_245002.out)
           have n2_ := Aside0.mk (Kd.V_drew HO_254002.out)
           have n3_ := Aside0.mk (Kd.V_drew HO_263002.out)
           have n4_ := Aside0.mk (blk_drew BK223.out)
           have n5_ := Aside0.mk (blk_drew BK224.out)
           have n6_ := Aside0.mk (blk_drew BK225.out)
           have n7_ := Aside0.mk (blk_drew BK235.out)
           have n8_ := Aside0.mk (blk_drew BK244.out)
           have n9_ := Aside0.mk (blk_drew BK253.out)
           have n10_ := Aside0.mk (blk_drew BK262.out)
           have n11_ := Aside0.mk (below_drew1 HB.out)
           clear HO_236002
           clear HO_245002
           clear HO_254002
           clear HO_263002
           clear BK223
           clear BK224
           clear BK225
           clear BK235
           clear BK244
           clear BK253
           clear BK262
           clear HB
           have HO_236002 := n0_
           have HO_245002 := n1_
           have HO_254002 := n2_
           have HO_263002 := n3_
           have BK223 := n4_
           have BK224 := n5_
           have BK225 := n6_
           have BK235 := n7_
           have BK244 := n8_
           have BK253 := n9_
           have BK262 := n10_
           have HB := n11_
           clear n0_ n1_ n2_ n3_ n4_ n5_ n6_ n7_ n8_ n9_ n10_ n11_
           refine start_ (n := 26) (S := fun w' => True) (ds := []) #[false, false, false, false, false, false, false, false, false, false, false, false, false, false, false, false, false, false, false, false, false, false, false, false, false, false] (by kernel_rfl) rfl rfl trivial (fun hHeld => ?_); refine with_tabW selvedgelaw15_CutFeeds.tab14 selvedgelaw15_CutFeeds.bits14 (fun HT_ HW_ => ?_)
           generalize wc.drew = w135 at HO_236002 HO_245002 HO_254002 HO_263002 BK223 BK224 BK225 BK235 BK244 BK253 BK262 HB hHeld ⊢
           refine pure_ (i := 0) (N := some 75) (v := ?_) (a' := ?_) #[true, false, false, false, false, false, false, false, false, false, false, false, false, false, false, false, false, false, false, false, false, false, false, false, false, false] rfl rfl (any_of HT_.out (by kernel_rfl)) (fun _ _ _ h => h) (Or.inl ⟨by rfl, ?_⟩) ?_ ?_
           rotate_left
           ·
            intro w'
            go_simp
            with_reducible rfl
           rotate_left
           ·
            simp only [Act.put, List.setIfInBounds_toArray, List.set_cons_zero, List.set_cons_succ, i64_w, i32_w]
            rfl
           refine pure_ (i := 1) (N := some 76) (v := ?_) (a' := ?_) #[true, true, false, false, false, false, false, false, false, false, false, false, false, false, false, false, false, false, false, false, false, false, false, false, false, false] rfl rfl (any_of HT_.out (by kernel_rfl)) (fun _ _ _ h => h) (Or.inl ⟨by rfl, ?_⟩) ?_ ?_
           rotate_left
           ·
            intro w'
            go_simp
            with_reducible rfl
           rotate_left
           ·
            simp only [Act.put, List.setIfInBounds_toArray, List.set_cons_zero, List.set_cons_succ, i64_w, i32_w]
            rfl
           refine pure_ (i := 2) (N := some 77) (v := ?_) (a' := ?_) #[true, true, true, false, false, false, false, false, false, false, false, false, false, false, false, false, false, false, false, false, false, false, false, false, false, false] rfl rfl (any_of HT_.out (by kernel_rfl)) (fun _ _ _ h => h) (Or.inl ⟨by rfl, ?_⟩) ?_ ?_
           rotate_left
           ·
            intro w'
            go_simp
            with_reducible rfl
           rotate_left
           ·
            simp only [Act.put, List.setIfInBounds_toArray, List.set_cons_zero, List.set_cons_succ, i64_w, i32_w]
            rfl
           refine pure_ (i := 3) (N := some 78) (v := ?_) (a' := ?_) #[true, true, true, true, false, false, false, false, false, false, false, false, false, false, false, false, false, false, false, false, false, false, false, false, false, false] rfl rfl (any_of HT_.out (by kernel_rfl)) (fun _ _ _ h => h) (Or.inl ⟨by rfl, ?_⟩) ?_ ?_
           rotate_left
           ·
            intro w'
            go_simp
            with_reducible rfl
           rotate_left
           ·
            simp only [Act.put, List.setIfInBounds_toArray, List.set_cons_zero, List.set_cons_succ, i64_w, i32_w]
            rfl
           refine pure_ (i := 4) (N := some 79) (v := ?_) (a' := ?_) #[true, true, true, true, true, false, false, false, false, false, false, false, false, false, false, false, false, false, false, false, false, false, false, false, false, false] rfl rfl (any_of HT_.out (by kernel_rfl)) (fun _ _ _ h => h) (Or.inl ⟨by rfl, ?_⟩) ?_ ?_
           rotate_left
           ·
            intro w'
            go_simp
            with_reducible rfl
           rotate_left
           ·
            simp only [Act.put, List.setIfInBounds_toArray, List.set_cons_zero, List.set_cons_succ, i64_w, i32_w]
            rfl
           refine pure_ (i := 5) (N := some 80) (v := ?_) (a' := ?_) #[true, true, true, true, true, true, false, false, false, false, false, false, false, false, false, false, false, false, false, false, false, false, false, false, false, false] rfl rfl (any_of HT_.out (by kernel_rfl)) (fun _ _ _ h => h) (Or.inl ⟨by rfl, ?_⟩) ?_ ?_
           rotate_left
           ·
            intro w'
            go_simp
            with_reducible rfl
           rotate_left
           ·
            simp only [Act.put, List.setIfInBounds_toArray, List.set_cons_zero, List.set_cons_succ, i64_w, i32_w]
            rfl
           refine pure_ (i := 6) (N := some 81) (v := ?_) (a' := ?_) #[true, true, true, true, true, true, true, false, false, false, false, false, false, false, false, false, false, false, false, false, false, false, false, false, false, false] rfl rfl (any_of HT_.out (by kernel_rfl)) (fun _ _ _ h => h) (Or.inl ⟨by rfl, ?_⟩) ?_ ?_
           rotate_left
           ·
            intro w'
            go_simp
            with_reducible rfl
           rotate_left
           ·
            simp only [Act.put, List.setIfInBounds_toArray, List.set_cons_zero, List.set_cons_succ, i64_w, i32_w]
            rfl
           refine pure_ (i := 7) (N := some 82) (v := ?_) (a' := ?_) #[true, true, true, true, true, true, true, true, false, false, false, false, false, false, false, false, false, false, false, false, false, false, false, false, false, false] rfl rfl (any_of HT_.out (by kernel_rfl)) (fun _ _ _ h => h) (Or.inl ⟨by rfl, ?_⟩) ?_ ?_
           rotate_left
           ·
            intro w'
            go_simp
            with_reducible rfl
           rotate_left
           ·
            simp only [Act.put, List.setIfInBounds_toArray, List.set_cons_zero, List.set_cons_succ, i64_w, i32_w]
            rfl
           refine pure_ (i := 8) (N := some 83) (v := undef) (a' := ?_) #[true, true, true, true, true, true, true, true, true, false, false, false, false, false, false, false, false, false, false, false, false, false, false, false, false, false] rfl rfl (any_of HT_.out (by kernel_rfl)) (fun _ _ _ h => h) (Or.inr ⟨by rfl, rfl⟩) ?_ ?_
           rotate_left
           ·
            simp only [Act.put, List.setIfInBounds_toArray, List.set_cons_zero, List.set_cons_succ, i64_w, i32_w]
            rfl
           refine pure_ (i := 9) (N := some 84) (v := undef) (a' := ?_) #[true, true, true, true, true, true, true, true, true, true, false, false, false, false, false, false, false, false, false, false, false, false, false, false, false, false] rfl rfl (any_of HT_.out (by kernel_rfl)) (fun _ _ _ h => h) (Or.inr ⟨by rfl, rfl⟩) ?_ ?_
           rotate_left
           ·
            simp only [Act.put, List.setIfInBounds_toArray, List.set_cons_zero, List.set_cons_succ, i64_w, i32_w]
            rfl
           refine pure_ (i := 10) (N := some 85) (v := undef) (a' := ?_) #[true, true, true, true, true, true, true, true, true, true, true, false, false, false, false, false, false, false, false, false, false, false, false, false, false, false] rfl rfl (any_of HT_.out (by kernel_rfl)) (fun _ _ _ h => h) (Or.inr ⟨by rfl, rfl⟩) ?_ ?_
           rotate_left
           ·
            simp only [Act.put, List.setIfInBounds_toArray, List.set_cons_zero, List.set_cons_succ, i64_w, i32_w]
            rfl
           refine pure_ (i := 11) (N := some 86) (v := undef) (a' := ?_) #[true, true, true, true, true, true, true, true, true, true, true, true, false, false, false, false, false, false, false, false, false, false, false, false, false, false] rfl rfl (any_of HT_.out (by kernel_rfl)) (fun _ _ _ h => h) (Or.inr ⟨by rfl, rfl⟩) ?_ ?_
           rotate_left
           ·
            simp only [Act.put, List.setIfInBounds_toArray, List.set_cons_zero, List.set_cons_succ, i64_w, i32_w]
            rfl
           refine pure_ (i := 12) (N := some 87) (v := undef) (a' := ?_) #[true, true, true, true, true, true, true, true, true, true, true, true, true, false, false, false, false, false, false, false, false, false, false, false, false, false] rfl rfl (any_of HT_.out (by kernel_rfl)) (fun _ _ _ h => h) (Or.inr ⟨by rfl, rfl⟩) ?_ ?_
           rotate_left
           ·
            simp only [Act.put, List.setIfInBounds_toArray, List.set_cons_zero, List.set_cons_succ, i64_w, i32_w]
            rfl
           refine pure_ (i := 13) (N := some 88) (v := ?_) (a' := ?_) #[true, true, true, true, true, true, true, true, true, true, true, true, true, true, false, false, false, false, false, false, false, false, false, false, false, false] rfl rfl (any_of HT_.out (by kernel_rfl)) (fun _ _ _ h => h) (Or.inl ⟨by rfl, ?_⟩) ?_ ?_
           rotate_left
           ·
            intro w'
            go_simp
            with_reducible rfl
           rotate_left
           ·
            simp only [Act.put, List.setIfInBounds_toArray, List.set_cons_zero, List.set_cons_succ, i64_w, i32_w]
            rfl
           refine pure_ (i := 14) (N := some 89) (v := ?_) (a' := ?_) #[true, true, true, true, true, true, true, true, true, true, true, true, true, true, true, false, false, false, false, false, false, false, false, false, false, false] rfl rfl (any_of HT_.out (by kernel_rfl)) (fun _ _ _ h => h) (Or.inl ⟨by rfl, ?_⟩) ?_ ?_
           rotate_left
           ·
            intro w'
            go_simp
            with_reducible rfl
           rotate_left
           ·
            simp only [Act.put, List.setIfInBounds_toArray, List.set_cons_zero, List.set_cons_succ, i64_w, i32_w]
            rfl
           refine pure_ (i := 15) (N := some 90) (v := undef) (a' := ?_) #[true, true, true, true, true, true, true, true, true, true, true, true, true, true, true, true, false, false, false, false, false, false, false, false, false, false] rfl rfl (any_of HT_.out (by kernel_rfl)) (fun _ _ _ h => h) (Or.inr ⟨by rfl, rfl⟩) ?_ ?_
           rotate_left
           ·
            simp only [Act.put, List.setIfInBounds_toArray, List.set_cons_zero, List.set_cons_succ, i64_w, i32_w]
            rfl
           refine pure_ (i := 16) (N := some 91) (v := undef) (a' := ?_) #[true, true, true, true, true, true, true, true, true, true, true, true, true, true, true, true, true, false, false, false, false, false, false, false, false, false] rfl rfl (any_of HT_.out (by kernel_rfl)) (fun _ _ _ h => h) (Or.inr ⟨by rfl, rfl⟩) ?_ ?_
           rotate_left
           ·
            simp only [Act.put, List.setIfInBounds_toArray, List.set_cons_zero, List.set_cons_succ, i64_w, i32_w]
            rfl
           refine pure_ (i := 17) (N := some 92) (v := undef) (a' := ?_) #[true, true, true, true, true, true, true, true, true, true, true, true, true, true, true, true, true, true, false, false, false, false, false, false, false, false] rfl rfl (any_of HT_.out (by kernel_rfl)) (fun _ _ _ h => h) (Or.inr ⟨by rfl, rfl⟩) ?_ ?_
           rotate_left
           ·
            simp only [Act.put, List.setIfInBounds_toArray, List.set_cons_zero, List.set_cons_succ, i64_w, i32_w]
            rfl
           refine pure_ (i := 18) (N := some 93) (v := undef) (a' := ?_) #[true, true, true, true, true, true, true, true, true, true, true, true, true, true, true, true, true, true, true, false, false, false, false, false, false, false] rfl rfl (any_of HT_.out (by kernel_rfl)) (fun _ _ _ h => h) (Or.inr ⟨by rfl, rfl⟩) ?_ ?_
           rotate_left
           ·
            simp only [Act.put, List.setIfInBounds_toArray, List.set_cons_zero, List.set_cons_succ, i64_w, i32_w]
            rfl
           refine pure_ (i := 19) (N := some 94) (v := undef) (a' := ?_) #[true, true, true, true, true, true, true, true, true, true, true, true, true, true, true, true, true, true, true, true, false, false, false, false, false, false] rfl rfl (any_of HT_.out (by kernel_rfl)) (fun _ _ _ h => h) (Or.inr ⟨by rfl, rfl⟩) ?_ ?_
           rotate_left
           ·
            simp only [Act.put, List.setIfInBounds_toArray, List.set_cons_zero, List.set_cons_succ, i64_w, i32_w]
            rfl
           refine pure_ (i := 20) (N := some 95) (v := undef) (a' := ?_) #[true, true, true, true, true, true, true, true, true, true, true, true, true, true, true, true, true, true, true, true, true, false, false, false, false, false] rfl rfl (any_of HT_.out (by kernel_rfl)) (fun _ _ _ h => h) (Or.inr ⟨by rfl, rfl⟩) ?_ ?_
           rotate_left
           ·
            simp only [Act.put, List.setIfInBounds_toArray, List.set_cons_zero, List.set_cons_succ, i64_w, i32_w]
            rfl
           refine pure_ (i := 21) (N := some 96) (v := undef) (a' := ?_) #[true, true, true, true, true, true, true, true, true, true, true, true, true, true, true, true, true, true, true, true, true, true, false, false, false, false] rfl rfl (any_of HT_.out (by kernel_rfl)) (fun _ _ _ h => h) (Or.inr ⟨by rfl, rfl⟩) ?_ ?_
           rotate_left
           ·
            simp only [Act.put, List.setIfInBounds_toArray, List.set_cons_zero, List.set_cons_succ, i64_w, i32_w]
            rfl
           refine pure_ (i := 22) (N := some 97) (v := undef) (a' := ?_) #[true, true, true, true, true, true, true, true, true, true, true, true, true, true, true, true, true, true, true, true, true, true, true, false, false, false] rfl rfl (any_of HT_.out (by kernel_rfl)) (fun _ _ _ h => h) (Or.inr ⟨by rfl, rfl⟩) ?_ ?_
           rotate_left
           ·
            simp only [Act.put, List.setIfInBounds_toArray, List.set_cons_zero, List.set_cons_succ, i64_w, i32_w]
            rfl
           refine pure_ (i := 23) (N := some 98) (v := undef) (a' := ?_) #[true, true, true, true, true, true, true, true, true, true, true, true, true, true, true, true, true, true, true, true, true, true, true, true, false, false] rfl rfl (any_of HT_.out (by kernel_rfl)) (fun _ _ _ h => h) (Or.inr ⟨by rfl, rfl⟩) ?_ ?_
           rotate_left
           ·
            simp only [Act.put, List.setIfInBounds_toArray, List.set_cons_zero, List.set_cons_succ, i64_w, i32_w]
            rfl
           refine pure_ (i := 24) (N := some 99) (v := ?_) (a' := ?_) #[true, true, true, true, true, true, true, true, true, true, true, true, true, true, true, true, true, true, true, true, true, true, true, true, true, false] rfl rfl (any_of HT_.out (by kernel_rfl)) (fun _ _ _ h => h) (Or.inl ⟨by rfl, ?_⟩) ?_ ?_
           rotate_left
           ·
            intro w'
            go_simp
            with_reducible rfl
           rotate_left
           ·
            simp only [Act.put, List.setIfInBounds_toArray, List.set_cons_zero, List.set_cons_succ, i64_w, i32_w]
            rfl
           refine pure_ (i := 25) (N := some 2) (v := ?_) (a' := ?_) #[true, true, true, true, true, true, true, true, true, true, true, true, true, true, true, true, true, true, true, true, true, true, true, true, true, true] rfl rfl (any_of HT_.out (by kernel_rfl)) (fun _ _ _ h => h) (Or.inl ⟨by rfl, ?_⟩) ?_ ?_
           rotate_left
           ·
            intro w'
            go_simp
            with_reducible rfl
           rotate_left
           ·
            simp only [Act.put, List.setIfInBounds_toArray, List.set_cons_zero, List.set_cons_succ, i64_w, i32_w]
            rfl
           refine done_ (done_of HT_.out (by kernel_rfl)) ?_
           try go_wp2
           go_ret
           exact ⟨by first | rfl | (simp [errW_none, errW_some] <;> rfl) | (simp [*, errW_none, errW_some] <;> rfl), by repeat (first | (with_reducible first | exact HB.out | apply below_alloc | apply pw_below_drewN | apply below_drew1 | refine below_set ?_ GE223.out | refine below_set ?_ GE224.out | refine below_set ?_ GE225.out | refine below_set ?_ GE235.out | refine below_set ?_ GE244.out | refine below_set ?_ GE253.out | refine below_set ?_ GE262.out) | exact HB.out)⟩
         ·
          replace c121 := Bool.eq_false_iff.mpr c121
          subst c121
          have H1 : (some false) = some r := by rw [if_neg (show ¬ (false = true) by decide)] at H; exact H
          clear H
          have H := H1
          clear H1
          obtain rfl := Option.some.inj H
          try go_wp2
          have n0_ := Aside0.mk (Kd.V_drew HO_236002.out)
          have n1_ := Aside0.mk (Kd.V_drew HO_245002.out)
          have n2_ := Aside0.mk (Kd.V_drew HO_254002.out)
          have n3_ := Aside0.mk (Kd.V_drew HO_263002.out)
          have n4_ := Aside0.mk (blk_drew BK223.out)
          have n5_ := Aside0.mk (blk_drew BK224.out)
          have n6_ := Aside0.mk (blk_drew BK225.out)
          have n7_ := Aside0.mk (blk_drew BK235.out)
          have n8_ := Aside0.mk (blk_drew BK244.out)
          have n9_ := Aside0.mk (blk_drew BK253.out)
          have n10_ := Aside0.mk (blk_drew BK262.out)
          have n11_ := Aside0.mk (below_drew1 HB.out)
          clear HO_236002
          clear HO_245002
          clear HO_254002
          clear HO_263002
          clear BK223
          clear BK224
          clear BK225
          clear BK235
          clear BK244
          clear BK253
          clear BK262
          clear HB
          have HO_236002 := n0_
          have HO_245002 := n1_
          have HO_254002 := n2_
          have HO_263002 := n3_
          have BK223 := n4_
          have BK224 := n5_
          have BK225 := n6_
          have BK235 := n7_
          have BK244 := n8_
          have BK253 := n9_
          have BK262 := n10_
          have HB := n11_
          clear n0_ n1_ n2_ n3_ n4_ n5_ n6_ n7_ n8_ n9_ n10_ n11_
          refine start_ (n := 26) (S := fun w' => True) (ds := []) #[false, false, false, false, false, false, false, false, false, false, false, false, false, false, false, false, false, false, false, false, false, false, false, false, false, false] (by kernel_rfl) rfl rfl trivial (fun hHeld => ?_); refine with_tabW selvedgelaw15_CutFeeds.tab14 selvedgelaw15_CutFeeds.bits14 (fun HT_ HW_ => ?_)
          generalize wc.drew = w136 at HO_236002 HO_245002 HO_254002 HO_263002 BK223 BK224 BK225 BK235 BK244 BK253 BK262 HB hHeld ⊢
          refine pure_ (i := 0) (N := some 75) (v := ?_) (a' := ?_) #[true, false, false, false, false, false, false, false, false, false, false, false, false, false, false, false, false, false, false, false, false, false, false, false, false, false] rfl rfl (any_of HT_.out (by kernel_rfl)) (fun _ _ _ h => h) (Or.inl ⟨by rfl, ?_⟩) ?_ ?_
          rotate_left
          ·
           intro w'
           go_simp
           with_reducible rfl
          rotate_left
          ·
           simp only [Act.put, List.setIfInBounds_toArray, List.set_cons_zero, List.set_cons_succ, i64_w, i32_w]
           rfl
          refine pure_ (i := 1) (N := some 76) (v := ?_) (a' := ?_) #[true, true, false, false, false, false, false, false, false, false, false, false, false, false, false, false, false, false, false, false, false, false, false, false, false, false] rfl rfl (any_of HT_.out (by kernel_rfl)) (fun _ _ _ h => h) (Or.inl ⟨by rfl, ?_⟩) ?_ ?_
          rotate_left
          ·
           intro w'
           go_simp
           with_reducible rfl
          rotate_left
          ·
           simp only [Act.put, List.setIfInBounds_toArray, List.set_cons_zero, List.set_cons_succ, i64_w, i32_w]
           rfl
          refine pure_ (i := 2) (N := some 77) (v := ?_) (a' := ?_) #[true, true, true, false, false, false, false, false, false, false, false, false, false, false, false, false, false, false, false, false, false, false, false, false, false, false] rfl rfl (any_of HT_.out (by kernel_rfl)) (fun _ _ _ h => h) (Or.inl ⟨by rfl, ?_⟩) ?_ ?_
          rotate_left
          ·
           intro w'
           go_simp
           with_reducible rfl
          rotate_left
          ·
           simp only [Act.put, List.setIfInBounds_toArray, List.set_cons_zero, List.set_cons_succ, i64_w, i32_w]
           rfl
          refine pure_ (i := 3) (N := some 78) (v := ?_) (a' := ?_) #[true, true, true, true, false, false, false, false, false, false, false, false, false, false, false, false, false, false, false, false, false, false, false, false, false, false] rfl rfl (any_of HT_.out (by kernel_rfl)) (fun _ _ _ h => h) (Or.inl ⟨by rfl, ?_⟩) ?_ ?_
          rotate_left
          ·
           intro w'
           go_simp
           with_reducible rfl
          rotate_left
          ·
           simp only [Act.put, List.setIfInBounds_toArray, List.set_cons_zero, List.set_cons_succ, i64_w, i32_w]
           rfl
          refine pure_ (i := 4) (N := some 79) (v := ?_) (a' := ?_) #[true, true, true, true, true, false, false, false, false, false, false, false, false, false, false, false, false, false, false, false, false, false, false, false, false, false] rfl rfl (any_of HT_.out (by kernel_rfl)) (fun _ _ _ h => h) (Or.inl ⟨by rfl, ?_⟩) ?_ ?_
          rotate_left
          ·
           intro w'
           go_simp
           with_reducible rfl
          rotate_left
          ·
           simp only [Act.put, List.setIfInBounds_toArray, List.set_cons_zero, List.set_cons_succ, i64_w, i32_w]
           rfl
          refine pure_ (i := 5) (N := some 80) (v := undef) (a' := ?_) #[true, true, true, true, true, true, false, false, false, false, false, false, false, false, false, false, false, false, false, false, false, false, false, false, false, false] rfl rfl (any_of HT_.out (by kernel_rfl)) (fun _ _ _ h => h) (Or.inr ⟨by rfl, rfl⟩) ?_ ?_
          rotate_left
          ·
           simp only [Act.put, List.setIfInBounds_toArray, List.set_cons_zero, List.set_cons_succ, i64_w, i32_w]
           rfl
          refine pure_ (i := 6) (N := some 81) (v := ?_) (a' := ?_) #[true, true, true, true, true, true, true, false, false, false, false, false, false, false, false, false, false, false, false, false, false, false, false, false, false, false] rfl rfl (any_of HT_.out (by kernel_rfl)) (fun _ _ _ h => h) (Or.inl ⟨by rfl, ?_⟩) ?_ ?_
          rotate_left
          ·
           intro w'
           go_simp
           with_reducible rfl
          rotate_left
          ·
           simp only [Act.put, List.setIfInBounds_toArray, List.set_cons_zero, List.set_cons_succ, i64_w, i32_w]
           rfl
          refine pure_ (i := 7) (N := some 82) (v := ?_) (a' := ?_) #[true, true, true, true, true, true, true, true, false, false, false, false, false, false, false, false, false, false, false, false, false, false, false, false, false, false] rfl rfl (any_of HT_.out (by kernel_rfl)) (fun _ _ _ h => h) (Or.inl ⟨by rfl, ?_⟩) ?_ ?_
          rotate_left
          ·
           intro w'
           go_simp
           with_reducible rfl
          rotate_left
          ·
           simp only [Act.put, List.setIfInBounds_toArray, List.set_cons_zero, List.set_cons_succ, i64_w, i32_w]
           rfl
          refine pure_ (i := 8) (N := some 83) (v := undef) (a' := ?_) #[true, true, true, true, true, true, true, true, true, false, false, false, false, false, false, false, false, false, false, false, false, false, false, false, false, false] rfl rfl (any_of HT_.out (by kernel_rfl)) (fun _ _ _ h => h) (Or.inr ⟨by rfl, rfl⟩) ?_ ?_
          rotate_left
          ·
           simp only [Act.put, List.setIfInBounds_toArray, List.set_cons_zero, List.set_cons_succ, i64_w, i32_w]
           rfl
          refine pure_ (i := 9) (N := some 84) (v := undef) (a' := ?_) #[true, true, true, true, true, true, true, true, true, true, false, false, false, false, false, false, false, false, false, false, false, false, false, false, false, false] rfl rfl (any_of HT_.out (by kernel_rfl)) (fun _ _ _ h => h) (Or.inr ⟨by rfl, rfl⟩) ?_ ?_
          rotate_left
          ·
           simp only [Act.put, List.setIfInBounds_toArray, List.set_cons_zero, List.set_cons_succ, i64_w, i32_w]
           rfl
          refine pure_ (i := 10) (N := some 85) (v := undef) (a' := ?_) #[true, true, true, true, true, true, true, true, true, true, true, false, false, false, false, false, false, false, false, false, false, false, false, false, false, false] rfl rfl (any_of HT_.out (by kernel_rfl)) (fun _ _ _ h => h) (Or.inr ⟨by rfl, rfl⟩) ?_ ?_
          rotate_left
          ·
           simp only [Act.put, List.setIfInBounds_toArray, List.set_cons_zero, List.set_cons_succ, i64_w, i32_w]
           rfl
          refine pure_ (i := 11) (N := some 86) (v := undef) (a' := ?_) #[true, true, true, true, true, true, true, true, true, true, true, true, false, false, false, false, false, false, false, false, false, false, false, false, false, false] rfl rfl (any_of HT_.out (by kernel_rfl)) (fun _ _ _ h => h) (Or.inr ⟨by rfl, rfl⟩) ?_ ?_
          rotate_left
          ·
           simp only [Act.put, List.setIfInBounds_toArray, List.set_cons_zero, List.set_cons_succ, i64_w, i32_w]
           rfl
          refine pure_ (i := 12) (N := some 87) (v := undef) (a' := ?_) #[true, true, true, true, true, true, true, true, true, true, true, true, true, false, false, false, false, false, false, false, false, false, false, false, false, false] rfl rfl (any_of HT_.out (by kernel_rfl)) (fun _ _ _ h => h) (Or.inr ⟨by rfl, rfl⟩) ?_ ?_
          rotate_left
          ·
           simp only [Act.put, List.setIfInBounds_toArray, List.set_cons_zero, List.set_cons_succ, i64_w, i32_w]
           rfl
          refine pure_ (i := 13) (N := some 88) (v := ?_) (a' := ?_) #[true, true, true, true, true, true, true, true, true, true, true, true, true, true, false, false, false, false, false, false, false, false, false, false, false, false] rfl rfl (any_of HT_.out (by kernel_rfl)) (fun _ _ _ h => h) (Or.inl ⟨by rfl, ?_⟩) ?_ ?_
          rotate_left
          ·
           intro w'
           go_simp
           with_reducible rfl
          rotate_left
          ·
           simp only [Act.put, List.setIfInBounds_toArray, List.set_cons_zero, List.set_cons_succ, i64_w, i32_w]
           rfl
          refine pure_ (i := 14) (N := some 89) (v := ?_) (a' := ?_) #[true, true, true, true, true, true, true, true, true, true, true, true, true, true, true, false, false, false, false, false, false, false, false, false, false, false] rfl rfl (any_of HT_.out (by kernel_rfl)) (fun _ _ _ h => h) (Or.inl ⟨by rfl, ?_⟩) ?_ ?_
          rotate_left
          ·
           intro w'
           go_simp
           with_reducible rfl
          rotate_left
          ·
           simp only [Act.put, List.setIfInBounds_toArray, List.set_cons_zero, List.set_cons_succ, i64_w, i32_w]
           rfl
          refine pure_ (i := 15) (N := some 90) (v := undef) (a' := ?_) #[true, true, true, true, true, true, true, true, true, true, true, true, true, true, true, true, false, false, false, false, false, false, false, false, false, false] rfl rfl (any_of HT_.out (by kernel_rfl)) (fun _ _ _ h => h) (Or.inr ⟨by rfl, rfl⟩) ?_ ?_
          rotate_left
          ·
           simp only [Act.put, List.setIfInBounds_toArray, List.set_cons_zero, List.set_cons_succ, i64_w, i32_w]
           rfl
          refine pure_ (i := 16) (N := some 91) (v := undef) (a' := ?_) #[true, true, true, true, true, true, true, true, true, true, true, true, true, true, true, true, true, false, false, false, false, false, false, false, false, false] rfl rfl (any_of HT_.out (by kernel_rfl)) (fun _ _ _ h => h) (Or.inr ⟨by rfl, rfl⟩) ?_ ?_
          rotate_left
          ·
           simp only [Act.put, List.setIfInBounds_toArray, List.set_cons_zero, List.set_cons_succ, i64_w, i32_w]
           rfl
          refine pure_ (i := 17) (N := some 92) (v := undef) (a' := ?_) #[true, true, true, true, true, true, true, true, true, true, true, true, true, true, true, true, true, true, false, false, false, false, false, false, false, false] rfl rfl (any_of HT_.out (by kernel_rfl)) (fun _ _ _ h => h) (Or.inr ⟨by rfl, rfl⟩) ?_ ?_
          rotate_left
          ·
           simp only [Act.put, List.setIfInBounds_toArray, List.set_cons_zero, List.set_cons_succ, i64_w, i32_w]
           rfl
          refine pure_ (i := 18) (N := some 93) (v := undef) (a' := ?_) #[true, true, true, true, true, true, true, true, true, true, true, true, true, true, true, true, true, true, true, false, false, false, false, false, false, false] rfl rfl (any_of HT_.out (by kernel_rfl)) (fun _ _ _ h => h) (Or.inr ⟨by rfl, rfl⟩) ?_ ?_
          rotate_left
          ·
           simp only [Act.put, List.setIfInBounds_toArray, List.set_cons_zero, List.set_cons_succ, i64_w, i32_w]
           rfl
          refine pure_ (i := 19) (N := some 94) (v := undef) (a' := ?_) #[true, true, true, true, true, true, true, true, true, true, true, true, true, true, true, true, true, true, true, true, false, false, false, false, false, false] rfl rfl (any_of HT_.out (by kernel_rfl)) (fun _ _ _ h => h) (Or.inr ⟨by rfl, rfl⟩) ?_ ?_
          rotate_left
          ·
           simp only [Act.put, List.setIfInBounds_toArray, List.set_cons_zero, List.set_cons_succ, i64_w, i32_w]
           rfl
          refine pure_ (i := 20) (N := some 95) (v := undef) (a' := ?_) #[true, true, true, true, true, true, true, true, true, true, true, true, true, true, true, true, true, true, true, true, true, false, false, false, false, false] rfl rfl (any_of HT_.out (by kernel_rfl)) (fun _ _ _ h => h) (Or.inr ⟨by rfl, rfl⟩) ?_ ?_
          rotate_left
          ·
           simp only [Act.put, List.setIfInBounds_toArray, List.set_cons_zero, List.set_cons_succ, i64_w, i32_w]
           rfl
          refine pure_ (i := 21) (N := some 96) (v := undef) (a' := ?_) #[true, true, true, true, true, true, true, true, true, true, true, true, true, true, true, true, true, true, true, true, true, true, false, false, false, false] rfl rfl (any_of HT_.out (by kernel_rfl)) (fun _ _ _ h => h) (Or.inr ⟨by rfl, rfl⟩) ?_ ?_
          rotate_left
          ·
           simp only [Act.put, List.setIfInBounds_toArray, List.set_cons_zero, List.set_cons_succ, i64_w, i32_w]
           rfl
          refine pure_ (i := 22) (N := some 97) (v := undef) (a' := ?_) #[true, true, true, true, true, true, true, true, true, true, true, true, true, true, true, true, true, true, true, true, true, true, true, false, false, false] rfl rfl (any_of HT_.out (by kernel_rfl)) (fun _ _ _ h => h) (Or.inr ⟨by rfl, rfl⟩) ?_ ?_
          rotate_left
          ·
           simp only [Act.put, List.setIfInBounds_toArray, List.set_cons_zero, List.set_cons_succ, i64_w, i32_w]
           rfl
          refine pure_ (i := 23) (N := some 98) (v := undef) (a' := ?_) #[true, true, true, true, true, true, true, true, true, true, true, true, true, true, true, true, true, true, true, true, true, true, true, true, false, false] rfl rfl (any_of HT_.out (by kernel_rfl)) (fun _ _ _ h => h) (Or.inr ⟨by rfl, rfl⟩) ?_ ?_
          rotate_left
          ·
           simp only [Act.put, List.setIfInBounds_toArray, List.set_cons_zero, List.set_cons_succ, i64_w, i32_w]
           rfl
          refine pure_ (i := 24) (N := some 99) (v := ?_) (a' := ?_) #[true, true, true, true, true, true, true, true, true, true, true, true, true, true, true, true, true, true, true, true, true, true, true, true, true, false] rfl rfl (any_of HT_.out (by kernel_rfl)) (fun _ _ _ h => h) (Or.inl ⟨by rfl, ?_⟩) ?_ ?_
          rotate_left
          ·
           intro w'
           go_simp
           with_reducible rfl
          rotate_left
          ·
           simp only [Act.put, List.setIfInBounds_toArray, List.set_cons_zero, List.set_cons_succ, i64_w, i32_w]
           rfl
          refine pure_ (i := 25) (N := some 2) (v := ?_) (a' := ?_) #[true, true, true, true, true, true, true, true, true, true, true, true, true, true, true, true, true, true, true, true, true, true, true, true, true, true] rfl rfl (any_of HT_.out (by kernel_rfl)) (fun _ _ _ h => h) (Or.inl ⟨by rfl, ?_⟩) ?_ ?_
          rotate_left
          ·
           intro w'
           go_simp
           with_reducible rfl
          rotate_left
          ·
           simp only [Act.put, List.setIfInBounds_toArray, List.set_cons_zero, List.set_cons_succ, i64_w, i32_w]
           rfl
          refine done_ (done_of HT_.out (by kernel_rfl)) ?_
          try go_wp2
          go_ret
          exact ⟨by first | rfl | (simp [errW_none, errW_some] <;> rfl) | (simp [*, errW_none, errW_some] <;> rfl), by repeat (first | (with_reducible first | exact HB.out | apply below_alloc | apply pw_below_drewN | apply below_drew1 | refine below_set ?_ GE223.out | refine below_set ?_ GE224.out | refine below_set ?_ GE225.out | refine below_set ?_ GE235.out | refine below_set ?_ GE244.out | refine below_set ?_ GE253.out | refine below_set ?_ GE262.out) | exact HB.out)⟩
        ·
         replace c120 := Bool.eq_false_iff.mpr c120
         subst c120
         have H1 : (some false) = some r := by rw [if_neg (show ¬ (false = true) by decide)] at H; exact H
         clear H
         have H := H1
         clear H1
         obtain rfl := Option.some.inj H
         try go_wp2
         have n0_ := Aside0.mk (Kd.V_drew HO_236002.out)
         have n1_ := Aside0.mk (Kd.V_drew HO_245002.out)
         have n2_ := Aside0.mk (Kd.V_drew HO_254002.out)
         have n3_ := Aside0.mk (Kd.V_drew HO_263002.out)
         have n4_ := Aside0.mk (blk_drew BK223.out)
         have n5_ := Aside0.mk (blk_drew BK224.out)
         have n6_ := Aside0.mk (blk_drew BK225.out)
         have n7_ := Aside0.mk (blk_drew BK235.out)
         have n8_ := Aside0.mk (blk_drew BK244.out)
         have n9_ := Aside0.mk (blk_drew BK253.out)
         have n10_ := Aside0.mk (blk_drew BK262.out)
         have n11_ := Aside0.mk (below_drew1 HB.out)
         clear HO_236002
         clear HO_245002
         clear HO_254002
         clear HO_263002
         clear BK223
         clear BK224
         clear BK225
         clear BK235
         clear BK244
         clear BK253
         clear BK262
         clear HB
         have HO_236002 := n0_
         have HO_245002 := n1_
         have HO_254002 := n2_
         have HO_263002 := n3_
         have BK223 := n4_
         have BK224 := n5_
         have BK225 := n6_
         have BK235 := n7_
         have BK244 := n8_
         have BK253 := n9_
         have BK262 := n10_
         have HB := n11_
         clear n0_ n1_ n2_ n3_ n4_ n5_ n6_ n7_ n8_ n9_ n10_ n11_
         refine start_ (n := 26) (S := fun w' => True) (ds := []) #[false, false, false, false, false, false, false, false, false, false, false, false, false, false, false, false, false, false, false, false, false, false, false, false, false, false] (by kernel_rfl) rfl rfl trivial (fun hHeld => ?_); refine with_tabW selvedgelaw15_CutFeeds.tab14 selvedgelaw15_CutFeeds.bits14 (fun HT_ HW_ => ?_)
         generalize wc.drew = w137 at HO_236002 HO_245002 HO_254002 HO_263002 BK223 BK224 BK225 BK235 BK244 BK253 BK262 HB hHeld ⊢
         refine pure_ (i := 0) (N := some 75) (v := ?_) (a' := ?_) #[true, false, false, false, false, false, false, false, false, false, false, false, false, false, false, false, false, false, false, false, false, false, false, false, false, false] rfl rfl (any_of HT_.out (by kernel_rfl)) (fun _ _ _ h => h) (Or.inl ⟨by rfl, ?_⟩) ?_ ?_
         rotate_left
         ·
          intro w'
          go_simp
          with_reducible rfl
         rotate_left
         ·
          simp only [Act.put, List.setIfInBounds_toArray, List.set_cons_zero, List.set_cons_succ, i64_w, i32_w]
          rfl
         refine pure_ (i := 1) (N := some 76) (v := ?_) (a' := ?_) #[true, true, false, false, false, false, false, false, false, false, false, false, false, false, false, false, false, false, false, false, false, false, false, false, false, false] rfl rfl (any_of HT_.out (by kernel_rfl)) (fun _ _ _ h => h) (Or.inl ⟨by rfl, ?_⟩) ?_ ?_
         rotate_left
         ·
          intro w'
          go_simp
          with_reducible rfl
         rotate_left
         ·
          simp only [Act.put, List.setIfInBounds_toArray, List.set_cons_zero, List.set_cons_succ, i64_w, i32_w]
          rfl
         refine pure_ (i := 2) (N := some 77) (v := undef) (a' := ?_) #[true, true, true, false, false, false, false, false, false, false, false, false, false, false, false, false, false, false, false, false, false, false, false, false, false, false] rfl rfl (any_of HT_.out (by kernel_rfl)) (fun _ _ _ h => h) (Or.inr ⟨by rfl, rfl⟩) ?_ ?_
         rotate_left
         ·
          simp only [Act.put, List.setIfInBounds_toArray, List.set_cons_zero, List.set_cons_succ, i64_w, i32_w]
          rfl
         refine pure_ (i := 3) (N := some 78) (v := ?_) (a' := ?_) #[true, true, true, true, false, false, false, false, false, false, false, false, false, false, false, false, false, false, false, false, false, false, false, false, false, false] rfl rfl (any_of HT_.out (by kernel_rfl)) (fun _ _ _ h => h) (Or.inl ⟨by rfl, ?_⟩) ?_ ?_
         rotate_left
         ·
          intro w'
          go_simp
          with_reducible rfl
         rotate_left
         ·
          simp only [Act.put, List.setIfInBounds_toArray, List.set_cons_zero, List.set_cons_succ, i64_w, i32_w]
          rfl
         refine pure_ (i := 4) (N := some 79) (v := ?_) (a' := ?_) #[true, true, true, true, true, false, false, false, false, false, false, false, false, false, false, false, false, false, false, false, false, false, false, false, false, false] rfl rfl (any_of HT_.out (by kernel_rfl)) (fun _ _ _ h => h) (Or.inl ⟨by rfl, ?_⟩) ?_ ?_
         rotate_left
         ·
          intro w'
          go_simp
          with_reducible rfl
         rotate_left
         ·
          simp only [Act.put, List.setIfInBounds_toArray, List.set_cons_zero, List.set_cons_succ, i64_w, i32_w]
          rfl
         refine pure_ (i := 5) (N := some 80) (v := undef) (a' := ?_) #[true, true, true, true, true, true, false, false, false, false, false, false, false, false, false, false, false, false, false, false, false, false, false, false, false, false] rfl rfl (any_of HT_.out (by kernel_rfl)) (fun _ _ _ h => h) (Or.inr ⟨by rfl, rfl⟩) ?_ ?_
         rotate_left
         ·
          simp only [Act.put, List.setIfInBounds_toArray, List.set_cons_zero, List.set_cons_succ, i64_w, i32_w]
          rfl
         refine pure_ (i := 6) (N := some 81) (v := ?_) (a' := ?_) #[true, true, true, true, true, true, true, false, false, false, false, false, false, false, false, false, false, false, false, false, false, false, false, false, false, false] rfl rfl (any_of HT_.out (by kernel_rfl)) (fun _ _ _ h => h) (Or.inl ⟨by rfl, ?_⟩) ?_ ?_
         rotate_left
         ·
          intro w'
          go_simp
          with_reducible rfl
         rotate_left
         ·
          simp only [Act.put, List.setIfInBounds_toArray, List.set_cons_zero, List.set_cons_succ, i64_w, i32_w]
          rfl
         refine pure_ (i := 7) (N := some 82) (v := ?_) (a' := ?_) #[true, true, true, true, true, true, true, true, false, false, false, false, false, false, false, false, false, false, false, false, false, false, false, false, false, false] rfl rfl (any_of HT_.out (by kernel_rfl)) (fun _ _ _ h => h) (Or.inl ⟨by rfl, ?_⟩) ?_ ?_
         rotate_left
         ·
          intro w'
          go_simp
          with_reducible rfl
         rotate_left
         ·
          simp only [Act.put, List.setIfInBounds_toArray, List.set_cons_zero, List.set_cons_succ, i64_w, i32_w]
          rfl
         refine pure_ (i := 8) (N := some 83) (v := undef) (a' := ?_) #[true, true, true, true, true, true, true, true, true, false, false, false, false, false, false, false, false, false, false, false, false, false, false, false, false, false] rfl rfl (any_of HT_.out (by kernel_rfl)) (fun _ _ _ h => h) (Or.inr ⟨by rfl, rfl⟩) ?_ ?_
         rotate_left
         ·
          simp only [Act.put, List.setIfInBounds_toArray, List.set_cons_zero, List.set_cons_succ, i64_w, i32_w]
          rfl
         refine pure_ (i := 9) (N := some 84) (v := undef) (a' := ?_) #[true, true, true, true, true, true, true, true, true, true, false, false, false, false, false, false, false, false, false, false, false, false, false, false, false, false] rfl rfl (any_of HT_.out (by kernel_rfl)) (fun _ _ _ h => h) (Or.inr ⟨by rfl, rfl⟩) ?_ ?_
         rotate_left
         ·
          simp only [Act.put, List.setIfInBounds_toArray, List.set_cons_zero, List.set_cons_succ, i64_w, i32_w]
          rfl
         refine pure_ (i := 10) (N := some 85) (v := undef) (a' := ?_) #[true, true, true, true, true, true, true, true, true, true, true, false, false, false, false, false, false, false, false, false, false, false, false, false, false, false] rfl rfl (any_of HT_.out (by kernel_rfl)) (fun _ _ _ h => h) (Or.inr ⟨by rfl, rfl⟩) ?_ ?_
         rotate_left
         ·
          simp only [Act.put, List.setIfInBounds_toArray, List.set_cons_zero, List.set_cons_succ, i64_w, i32_w]
          rfl
         refine pure_ (i := 11) (N := some 86) (v := undef) (a' := ?_) #[true, true, true, true, true, true, true, true, true, true, true, true, false, false, false, false, false, false, false, false, false, false, false, false, false, false] rfl rfl (any_of HT_.out (by kernel_rfl)) (fun _ _ _ h => h) (Or.inr ⟨by rfl, rfl⟩) ?_ ?_
         rotate_left
         ·
          simp only [Act.put, List.setIfInBounds_toArray, List.set_cons_zero, List.set_cons_succ, i64_w, i32_w]
          rfl
         refine pure_ (i := 12) (N := some 87) (v := undef) (a' := ?_) #[true, true, true, true, true, true, true, true, true, true, true, true, true, false, false, false, false, false, false, false, false, false, false, false, false, false] rfl rfl (any_of HT_.out (by kernel_rfl)) (fun _ _ _ h => h) (Or.inr ⟨by rfl, rfl⟩) ?_ ?_
         rotate_left
         ·
          simp only [Act.put, List.setIfInBounds_toArray, List.set_cons_zero, List.set_cons_succ, i64_w, i32_w]
          rfl
         refine pure_ (i := 13) (N := some 88) (v := ?_) (a' := ?_) #[true, true, true, true, true, true, true, true, true, true, true, true, true, true, false, false, false, false, false, false, false, false, false, false, false, false] rfl rfl (any_of HT_.out (by kernel_rfl)) (fun _ _ _ h => h) (Or.inl ⟨by rfl, ?_⟩) ?_ ?_
         rotate_left
         ·
          intro w'
          go_simp
          with_reducible rfl
         rotate_left
         ·
          simp only [Act.put, List.setIfInBounds_toArray, List.set_cons_zero, List.set_cons_succ, i64_w, i32_w]
          rfl
         refine pure_ (i := 14) (N := some 89) (v := ?_) (a' := ?_) #[true, true, true, true, true, true, true, true, true, true, true, true, true, true, true, false, false, false, false, false, false, false, false, false, false, false] rfl rfl (any_of HT_.out (by kernel_rfl)) (fun _ _ _ h => h) (Or.inl ⟨by rfl, ?_⟩) ?_ ?_
         rotate_left
         ·
          intro w'
          go_simp
          with_reducible rfl
         rotate_left
         ·
          simp only [Act.put, List.setIfInBounds_toArray, List.set_cons_zero, List.set_cons_succ, i64_w, i32_w]
          rfl
         refine pure_ (i := 15) (N := some 90) (v := undef) (a' := ?_) #[true, true, true, true, true, true, true, true, true, true, true, true, true, true, true, true, false, false, false, false, false, false, false, false, false, false] rfl rfl (any_of HT_.out (by kernel_rfl)) (fun _ _ _ h => h) (Or.inr ⟨by rfl, rfl⟩) ?_ ?_
         rotate_left
         ·
          simp only [Act.put, List.setIfInBounds_toArray, List.set_cons_zero, List.set_cons_succ, i64_w, i32_w]
          rfl
         refine pure_ (i := 16) (N := some 91) (v := undef) (a' := ?_) #[true, true, true, true, true, true, true, true, true, true, true, true, true, true, true, true, true, false, false, false, false, false, false, false, false, false] rfl rfl (any_of HT_.out (by kernel_rfl)) (fun _ _ _ h => h) (Or.inr ⟨by rfl, rfl⟩) ?_ ?_
         rotate_left
         ·
          simp only [Act.put, List.setIfInBounds_toArray, List.set_cons_zero, List.set_cons_succ, i64_w, i32_w]
          rfl
         refine pure_ (i := 17) (N := some 92) (v := undef) (a' := ?_) #[true, true, true, true, true, true, true, true, true, true, true, true, true, true, true, true, true, true, false, false, false, false, false, false, false, false] rfl rfl (any_of HT_.out (by kernel_rfl)) (fun _ _ _ h => h) (Or.inr ⟨by rfl, rfl⟩) ?_ ?_
         rotate_left
         ·
          simp only [Act.put, List.setIfInBounds_toArray, List.set_cons_zero, List.set_cons_succ, i64_w, i32_w]
          rfl
         refine pure_ (i := 18) (N := some 93) (v := undef) (a' := ?_) #[true, true, true, true, true, true, true, true, true, true, true, true, true, true, true, true, true, true, true, false, false, false, false, false, false, false] rfl rfl (any_of HT_.out (by kernel_rfl)) (fun _ _ _ h => h) (Or.inr ⟨by rfl, rfl⟩) ?_ ?_
         rotate_left
         ·
          simp only [Act.put, List.setIfInBounds_toArray, List.set_cons_zero, List.set_cons_succ, i64_w, i32_w]
          rfl
         refine pure_ (i := 19) (N := some 94) (v := undef) (a' := ?_) #[true, true, true, true, true, true, true, true, true, true, true, true, true, true, true, true, true, true, true, true, false, false, false, false, false, false] rfl rfl (any_of HT_.out (by kernel_rfl)) (fun _ _ _ h => h) (Or.inr ⟨by rfl, rfl⟩) ?_ ?_
         rotate_left
         ·
          simp only [Act.put, List.setIfInBounds_toArray, List.set_cons_zero, List.set_cons_succ, i64_w, i32_w]
          rfl
         refine pure_ (i := 20) (N := some 95) (v := undef) (a' := ?_) #[true, true, true, true, true, true, true, true, true, true, true, true, true, true, true, true, true, true, true, true, true, false, false, false, false, false] rfl rfl (any_of HT_.out (by kernel_rfl)) (fun _ _ _ h => h) (Or.inr ⟨by rfl, rfl⟩) ?_ ?_
         rotate_left
         ·
          simp only [Act.put, List.setIfInBounds_toArray, List.set_cons_zero, List.set_cons_succ, i64_w, i32_w]
          rfl
         refine pure_ (i := 21) (N := some 96) (v := undef) (a' := ?_) #[true, true, true, true, true, true, true, true, true, true, true, true, true, true, true, true, true, true, true, true, true, true, false, false, false, false] rfl rfl (any_of HT_.out (by kernel_rfl)) (fun _ _ _ h => h) (Or.inr ⟨by rfl, rfl⟩) ?_ ?_
         rotate_left
         ·
          simp only [Act.put, List.setIfInBounds_toArray, List.set_cons_zero, List.set_cons_succ, i64_w, i32_w]
          rfl
         refine pure_ (i := 22) (N := some 97) (v := undef) (a' := ?_) #[true, true, true, true, true, true, true, true, true, true, true, true, true, true, true, true, true, true, true, true, true, true, true, false, false, false] rfl rfl (any_of HT_.out (by kernel_rfl)) (fun _ _ _ h => h) (Or.inr ⟨by rfl, rfl⟩) ?_ ?_
         rotate_left
         ·
          simp only [Act.put, List.setIfInBounds_toArray, List.set_cons_zero, List.set_cons_succ, i64_w, i32_w]
          rfl
         refine pure_ (i := 23) (N := some 98) (v := undef) (a' := ?_) #[true, true, true, true, true, true, true, true, true, true, true, true, true, true, true, true, true, true, true, true, true, true, true, true, false, false] rfl rfl (any_of HT_.out (by kernel_rfl)) (fun _ _ _ h => h) (Or.inr ⟨by rfl, rfl⟩) ?_ ?_
         rotate_left
         ·
          simp only [Act.put, List.setIfInBounds_toArray, List.set_cons_zero, List.set_cons_succ, i64_w, i32_w]
          rfl
         refine pure_ (i := 24) (N := some 99) (v := ?_) (a' := ?_) #[true, true, true, true, true, true, true, true, true, true, true, true, true, true, true, true, true, true, true, true, true, true, true, true, true, false] rfl rfl (any_of HT_.out (by kernel_rfl)) (fun _ _ _ h => h) (Or.inl ⟨by rfl, ?_⟩) ?_ ?_
         rotate_left
         ·
          intro w'
          go_simp
          with_reducible rfl
         rotate_left
         ·
          simp only [Act.put, List.setIfInBounds_toArray, List.set_cons_zero, List.set_cons_succ, i64_w, i32_w]
          rfl
         refine pure_ (i := 25) (N := some 2) (v := ?_) (a' := ?_) #[true, true, true, true, true, true, true, true, true, true, true, true, true, true, true, true, true, true, true, true, true, true, true, true, true, true] rfl rfl (any_of HT_.out (by kernel_rfl)) (fun _ _ _ h => h) (Or.inl ⟨by rfl, ?_⟩) ?_ ?_
         rotate_left
         ·
          intro w'
          go_simp
          with_reducible rfl
         rotate_left
         ·
          simp only [Act.put, List.setIfInBounds_toArray, List.set_cons_zero, List.set_cons_succ, i64_w, i32_w]
          rfl
         refine done_ (done_of HT_.out (by kernel_rfl)) ?_
         try go_wp2
         go_ret
         exact ⟨by first | rfl | (simp [errW_none, errW_some] <;> rfl) | (simp [*, errW_none, errW_some] <;> rfl), by repeat (first | (with_reducible first | exact HB.out | apply below_alloc | apply pw_below_drewN | apply below_drew1 | refine below_set ?_ GE223.out | refine below_set ?_ GE224.out | refine below_set ?_ GE225.out | refine below_set ?_ GE235.out | refine below_set ?_ GE244.out | refine below_set ?_ GE253.out | refine below_set ?_ GE262.out) | exact HB.out)⟩

end Go.Proofs.Ytefdokolbdnjnaa.PCutFeeds
