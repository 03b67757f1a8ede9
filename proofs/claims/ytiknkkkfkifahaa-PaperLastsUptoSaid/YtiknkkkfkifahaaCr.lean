import Derived.Test.YtiknkkkfkifahaaAd
/-
  selvedgeref17.Crash walked, whatever Read answers. By an AI agent.
-/
namespace Go.Proofs.Ytiknkkkfkifahaa.Sa
open Go.RowKit Go.Proofs.YtiknkkkfkifahaaW.PrintWords
set_option linter.unusedVariables false
set_option linter.unusedSimpArgs false
/-- Read's answer to bytes. -/
def RdC (S : ByteArray) (en : Int) : Prop := ∀ W, Calls Try.prog 35 #[.string S] W fun E w' => ∃ v, E = .returned (.tuple #[v, .int .i64 en]) ∧ Below W.heap.size W w'
def CrC (s wt : ByteArray) (fu : Int) (off : Bool) (keep : Int) (w : World) (r : ByteArray) : Prop :=
  Calls Try.prog 44 #[.agg (PCs s wt fu off), .int .i64 keep] w fun E w' => E = .returned (.agg (PCs r ByteArray.empty (-1) false)) ∧ Below w.heap.size w w'
theorem res_cr {W : World} {ob : Nat} {tmps : Array Value} {s wt : ByteArray} {fu : Int} {off : Bool} (h4 : tmps.getD 4 undef = .pointer (some ⟨ob, 0, none⟩)) (ho : PBl W ob s wt fu off) :
    (results Try.f44 tmps).run Try.prog W = .ok (.agg (PCs s wt fu off)) W := by
  have o0 : W.cell? ⟨ob, 0, none⟩ = some (.string s) := blk_cell ho 0
  have o1 : W.cell? ⟨ob, 1, none⟩ = some (.string wt) := blk_cell ho 1
  have o2 : W.cell? ⟨ob, 2, none⟩ = some (.int .i64 fu) := blk_cell ho 2
  have o3 : W.cell? ⟨ob, 3, none⟩ = some (.bool off) := blk_cell ho 3
  rw [Array.getD_eq_getD_getElem?] at h4
  simp [results, Try.results44, go_sem, h4, o0, o1, o2, o3]
set_option maxRecDepth 100000 in
set_option maxHeartbeats 2000000 in
theorem rcr_a (s wt : ByteArray) (fu : Int) (off : Bool) (keep : Int) (en : Int) (hk : keep < 0) (hs : s.size ≤ 1000000000000000) (hR : RdC s en) (h1 : en ≤ (s.size : Int)) (h0 : 0 ≤ en) (w : World) : CrC s wt fu off keep w (s.extract 0 en.toNat) := by
  have HF := Lib.hid hR
  have k1 := decide_eq_true hk
  have k2 : ¬ (wt.size : Int) < 0 := by omega
  have k3 := decide_eq_false k2
  have k6 := eq_true h1
  have k7 : s.size ≤ 9223372036854775807 := by omega
  have k8 := eq_false (Nat.not_lt.2 k7)
  have k9 := decide_eq_true k7
  clear hk hs h1
  have k5 := eq_true h0
  clear hR h0
  unfold CrC
  go_enter Try.func44, Try.ntmps44
  have b1 := blk_alloc (blk_new w (.cells (PCs s wt fu off) 60)) (.cells (PCs ByteArray.empty ByteArray.empty 0 false) 60)
  have b2 := blk_new (w.alloc (.cells (PCs s wt fu off) 60)) (.cells (PCs ByteArray.empty ByteArray.empty 0 false) 60)
  rw [World.size_alloc] at b2
  have hB0 : Below w.heap.size w ((w.alloc (.cells (PCs s wt fu off) 60)).alloc (.cells (PCs ByteArray.empty ByteArray.empty 0 false) 60)) := ((Below.refl _ w).alloc (Nat.le_refl _) _).alloc (by simp) _
  have p0 : ((w.alloc (.cells (PCs s wt fu off) 60)).alloc (.cells (PCs ByteArray.empty ByteArray.empty 0 false) 60)).cell? ⟨w.heap.size, 0, none⟩ = some (.string s) := blk_cell b1 0
  have o0 : ((w.alloc (.cells (PCs s wt fu off) 60)).alloc (.cells (PCs ByteArray.empty ByteArray.empty 0 false) 60)).cell? ⟨w.heap.size + 1, 0, none⟩ = some (.string ByteArray.empty) := blk_cell b2 0
  have f0 := blk_frozen b2 0
  have p1 : ((w.alloc (.cells (PCs s wt fu off) 60)).alloc (.cells (PCs ByteArray.empty ByteArray.empty 0 false) 60)).cell? ⟨w.heap.size, 1, none⟩ = some (.string wt) := blk_cell b1 1
  have o1 : ((w.alloc (.cells (PCs s wt fu off) 60)).alloc (.cells (PCs ByteArray.empty ByteArray.empty 0 false) 60)).cell? ⟨w.heap.size + 1, 1, none⟩ = some (.string ByteArray.empty) := blk_cell b2 1
  have f1 := blk_frozen b2 1
  have p2 : ((w.alloc (.cells (PCs s wt fu off) 60)).alloc (.cells (PCs ByteArray.empty ByteArray.empty 0 false) 60)).cell? ⟨w.heap.size, 2, none⟩ = some (.int .i64 fu) := blk_cell b1 2
  have o2 : ((w.alloc (.cells (PCs s wt fu off) 60)).alloc (.cells (PCs ByteArray.empty ByteArray.empty 0 false) 60)).cell? ⟨w.heap.size + 1, 2, none⟩ = some (.int .i64 0) := blk_cell b2 2
  have f2 := blk_frozen b2 2
  have p3 : ((w.alloc (.cells (PCs s wt fu off) 60)).alloc (.cells (PCs ByteArray.empty ByteArray.empty 0 false) 60)).cell? ⟨w.heap.size, 3, none⟩ = some (.bool off) := blk_cell b1 3
  have o3 : ((w.alloc (.cells (PCs s wt fu off) 60)).alloc (.cells (PCs ByteArray.empty ByteArray.empty 0 false) 60)).cell? ⟨w.heap.size + 1, 3, none⟩ = some (.bool false) := blk_cell b2 3
  have f3 := blk_frozen b2 3
  have HP := Lib.hid b1
  have HO := Lib.hid b2
  have HB := Lib.hid hB0
  clear b1 b2 hB0
  go_wp2
  go_quiet (fail)
  go_wp2_with fail
  refine (HF.out _).mono ?_
  rintro E w2 ⟨v, rfl, hb⟩
  have hp : PBl w2 w.heap.size s wt fu off := blk_below (blk_drewN HP.out _) hb
  have ho : PBl w2 (w.heap.size + 1) ByteArray.empty ByteArray.empty 0 false := blk_below (blk_drewN HO.out _) hb
  have hB : Below w.heap.size w w2 := (pw_below_drewN HB.out nq).trans (hb.mono (pw_below_drewN HB.out nq).size)
  clear p0 p1 p2 p3 o0 o1 o2 o3 f0 f1 f2 f3
  have p0 : w2.cell? ⟨w.heap.size, 0, none⟩ = some (.string s) := blk_cell hp 0
  have o0 : w2.cell? ⟨w.heap.size + 1, 0, none⟩ = some (.string ByteArray.empty) := blk_cell ho 0
  have f0 := blk_frozen ho 0
  have p1 : w2.cell? ⟨w.heap.size, 1, none⟩ = some (.string wt) := blk_cell hp 1
  have o1 : w2.cell? ⟨w.heap.size + 1, 1, none⟩ = some (.string ByteArray.empty) := blk_cell ho 1
  have f1 := blk_frozen ho 1
  have p2 : w2.cell? ⟨w.heap.size, 2, none⟩ = some (.int .i64 fu) := blk_cell hp 2
  have o2 : w2.cell? ⟨w.heap.size + 1, 2, none⟩ = some (.int .i64 0) := blk_cell ho 2
  have f2 := blk_frozen ho 2
  have p3 : w2.cell? ⟨w.heap.size, 3, none⟩ = some (.bool off) := blk_cell hp 3
  have o3 : w2.cell? ⟨w.heap.size + 1, 3, none⟩ = some (.bool false) := blk_cell ho 3
  have f3 := blk_frozen ho 3
  have HO2 := Lib.hid ho
  have HB2 := Lib.hid hB
  clear hp ho hB hb
  go_wp2
  refine bodyPost_ret (v := .agg (PCs (s.extract 0 en.toNat) ByteArray.empty (-1) false)) (res_cr (ob := w.heap.size + 1) rfl (blk_set (blk_set (blk_set (blk_set HO2.out 0 _) 1 _) 2 _) 3 _)) rfl ⟨rfl, below_set (below_set (below_set (below_set HB2.out (Nat.le_succ _)) (Nat.le_succ _)) (Nat.le_succ _)) (Nat.le_succ _)⟩
set_option maxRecDepth 100000 in
set_option maxHeartbeats 2000000 in
theorem rcr_b (s wt : ByteArray) (fu : Int) (off : Bool) (keep : Int) (en : Int) (S : ByteArray) (hS : s ++ wt = S) (hk : (wt.size : Int) < keep) (hs : s.size + wt.size ≤ 1000000000000000) (hR : RdC S en) (h1 : en ≤ (S.size : Int)) (h0 : 0 ≤ en) (w : World) : CrC s wt fu off keep w (S.extract 0 en.toNat) := by
  have HF := Lib.hid hR
  have k0 : ¬ keep < 0 := by omega
  have k1 := decide_eq_false k0
  have k3 := decide_eq_true hk
  have k6 := eq_true h1
  have k7 : s.size + wt.size ≤ 9223372036854775807 := by omega
  have k8 := eq_false (Nat.not_lt.2 k7)
  have k9 := decide_eq_true k7
  clear hs h1
  have k5 := eq_true h0
  clear hR h0
  unfold CrC
  go_enter Try.func44, Try.ntmps44
  have b1 := blk_alloc (blk_new w (.cells (PCs s wt fu off) 60)) (.cells (PCs ByteArray.empty ByteArray.empty 0 false) 60)
  have b2 := blk_new (w.alloc (.cells (PCs s wt fu off) 60)) (.cells (PCs ByteArray.empty ByteArray.empty 0 false) 60)
  rw [World.size_alloc] at b2
  have hB0 : Below w.heap.size w ((w.alloc (.cells (PCs s wt fu off) 60)).alloc (.cells (PCs ByteArray.empty ByteArray.empty 0 false) 60)) := ((Below.refl _ w).alloc (Nat.le_refl _) _).alloc (by simp) _
  have p0 : ((w.alloc (.cells (PCs s wt fu off) 60)).alloc (.cells (PCs ByteArray.empty ByteArray.empty 0 false) 60)).cell? ⟨w.heap.size, 0, none⟩ = some (.string s) := blk_cell b1 0
  have o0 : ((w.alloc (.cells (PCs s wt fu off) 60)).alloc (.cells (PCs ByteArray.empty ByteArray.empty 0 false) 60)).cell? ⟨w.heap.size + 1, 0, none⟩ = some (.string ByteArray.empty) := blk_cell b2 0
  have f0 := blk_frozen b2 0
  have p1 : ((w.alloc (.cells (PCs s wt fu off) 60)).alloc (.cells (PCs ByteArray.empty ByteArray.empty 0 false) 60)).cell? ⟨w.heap.size, 1, none⟩ = some (.string wt) := blk_cell b1 1
  have o1 : ((w.alloc (.cells (PCs s wt fu off) 60)).alloc (.cells (PCs ByteArray.empty ByteArray.empty 0 false) 60)).cell? ⟨w.heap.size + 1, 1, none⟩ = some (.string ByteArray.empty) := blk_cell b2 1
  have f1 := blk_frozen b2 1
  have p2 : ((w.alloc (.cells (PCs s wt fu off) 60)).alloc (.cells (PCs ByteArray.empty ByteArray.empty 0 false) 60)).cell? ⟨w.heap.size, 2, none⟩ = some (.int .i64 fu) := blk_cell b1 2
  have o2 : ((w.alloc (.cells (PCs s wt fu off) 60)).alloc (.cells (PCs ByteArray.empty ByteArray.empty 0 false) 60)).cell? ⟨w.heap.size + 1, 2, none⟩ = some (.int .i64 0) := blk_cell b2 2
  have f2 := blk_frozen b2 2
  have p3 : ((w.alloc (.cells (PCs s wt fu off) 60)).alloc (.cells (PCs ByteArray.empty ByteArray.empty 0 false) 60)).cell? ⟨w.heap.size, 3, none⟩ = some (.bool off) := blk_cell b1 3
  have o3 : ((w.alloc (.cells (PCs s wt fu off) 60)).alloc (.cells (PCs ByteArray.empty ByteArray.empty 0 false) 60)).cell? ⟨w.heap.size + 1, 3, none⟩ = some (.bool false) := blk_cell b2 3
  have f3 := blk_frozen b2 3
  have HP := Lib.hid b1
  have HO := Lib.hid b2
  have HB := Lib.hid hB0
  clear b1 b2 hB0
  go_wp2
  go_quiet (fail)
  go_wp2_with fail
  refine (HF.out _).mono ?_
  rintro E w2 ⟨v, rfl, hb⟩
  have hp : PBl w2 w.heap.size s wt fu off := blk_below (blk_drewN HP.out _) hb
  have ho : PBl w2 (w.heap.size + 1) ByteArray.empty ByteArray.empty 0 false := blk_below (blk_drewN HO.out _) hb
  have hB : Below w.heap.size w w2 := (pw_below_drewN HB.out nq).trans (hb.mono (pw_below_drewN HB.out nq).size)
  clear p0 p1 p2 p3 o0 o1 o2 o3 f0 f1 f2 f3
  have p0 : w2.cell? ⟨w.heap.size, 0, none⟩ = some (.string s) := blk_cell hp 0
  have o0 : w2.cell? ⟨w.heap.size + 1, 0, none⟩ = some (.string ByteArray.empty) := blk_cell ho 0
  have f0 := blk_frozen ho 0
  have p1 : w2.cell? ⟨w.heap.size, 1, none⟩ = some (.string wt) := blk_cell hp 1
  have o1 : w2.cell? ⟨w.heap.size + 1, 1, none⟩ = some (.string ByteArray.empty) := blk_cell ho 1
  have f1 := blk_frozen ho 1
  have p2 : w2.cell? ⟨w.heap.size, 2, none⟩ = some (.int .i64 fu) := blk_cell hp 2
  have o2 : w2.cell? ⟨w.heap.size + 1, 2, none⟩ = some (.int .i64 0) := blk_cell ho 2
  have f2 := blk_frozen ho 2
  have p3 : w2.cell? ⟨w.heap.size, 3, none⟩ = some (.bool off) := blk_cell hp 3
  have o3 : w2.cell? ⟨w.heap.size + 1, 3, none⟩ = some (.bool false) := blk_cell ho 3
  have f3 := blk_frozen ho 3
  have HO2 := Lib.hid ho
  have HB2 := Lib.hid hB
  clear hp ho hB hb
  go_wp2
  refine bodyPost_ret (v := .agg (PCs (S.extract 0 en.toNat) ByteArray.empty (-1) false)) (res_cr (ob := w.heap.size + 1) rfl (blk_set (blk_set (blk_set (blk_set HO2.out 0 _) 1 _) 2 _) 3 _)) rfl ⟨rfl, below_set (below_set (below_set (below_set HB2.out (Nat.le_succ _)) (Nat.le_succ _)) (Nat.le_succ _)) (Nat.le_succ _)⟩
set_option maxRecDepth 100000 in
set_option maxHeartbeats 2000000 in
theorem rcr_c (s wt : ByteArray) (fu : Int) (off : Bool) (keep : Int) (en : Int) (S u : ByteArray) (hu : wt.extract 0 keep.toNat = u) (hS : s ++ u = S) (hk0 : 0 ≤ keep) (hk : keep ≤ (wt.size : Int)) (hs : s.size + u.size ≤ 1000000000000000) (hR : RdC S en) (h1 : en ≤ (S.size : Int)) (h0 : 0 ≤ en) (w : World) : CrC s wt fu off keep w (S.extract 0 en.toNat) := by
  have HF := Lib.hid hR
  have k0 : ¬ keep < 0 := by omega
  have k1 := decide_eq_false k0
  have k2 : ¬ (wt.size : Int) < keep := by omega
  have k3 := decide_eq_false k2
  have k4 := eq_true hk
  have k4a := eq_true hk0
  have k6 := eq_true h1
  have k7 : s.size + u.size ≤ 9223372036854775807 := by omega
  have k8 := eq_false (Nat.not_lt.2 k7)
  have k9 := decide_eq_true k7
  clear hs h1
  have k5 := eq_true h0
  clear hR h0
  unfold CrC
  go_enter Try.func44, Try.ntmps44
  have b1 := blk_alloc (blk_new w (.cells (PCs s wt fu off) 60)) (.cells (PCs ByteArray.empty ByteArray.empty 0 false) 60)
  have b2 := blk_new (w.alloc (.cells (PCs s wt fu off) 60)) (.cells (PCs ByteArray.empty ByteArray.empty 0 false) 60)
  rw [World.size_alloc] at b2
  have hB0 : Below w.heap.size w ((w.alloc (.cells (PCs s wt fu off) 60)).alloc (.cells (PCs ByteArray.empty ByteArray.empty 0 false) 60)) := ((Below.refl _ w).alloc (Nat.le_refl _) _).alloc (by simp) _
  have p0 : ((w.alloc (.cells (PCs s wt fu off) 60)).alloc (.cells (PCs ByteArray.empty ByteArray.empty 0 false) 60)).cell? ⟨w.heap.size, 0, none⟩ = some (.string s) := blk_cell b1 0
  have o0 : ((w.alloc (.cells (PCs s wt fu off) 60)).alloc (.cells (PCs ByteArray.empty ByteArray.empty 0 false) 60)).cell? ⟨w.heap.size + 1, 0, none⟩ = some (.string ByteArray.empty) := blk_cell b2 0
  have f0 := blk_frozen b2 0
  have p1 : ((w.alloc (.cells (PCs s wt fu off) 60)).alloc (.cells (PCs ByteArray.empty ByteArray.empty 0 false) 60)).cell? ⟨w.heap.size, 1, none⟩ = some (.string wt) := blk_cell b1 1
  have o1 : ((w.alloc (.cells (PCs s wt fu off) 60)).alloc (.cells (PCs ByteArray.empty ByteArray.empty 0 false) 60)).cell? ⟨w.heap.size + 1, 1, none⟩ = some (.string ByteArray.empty) := blk_cell b2 1
  have f1 := blk_frozen b2 1
  have p2 : ((w.alloc (.cells (PCs s wt fu off) 60)).alloc (.cells (PCs ByteArray.empty ByteArray.empty 0 false) 60)).cell? ⟨w.heap.size, 2, none⟩ = some (.int .i64 fu) := blk_cell b1 2
  have o2 : ((w.alloc (.cells (PCs s wt fu off) 60)).alloc (.cells (PCs ByteArray.empty ByteArray.empty 0 false) 60)).cell? ⟨w.heap.size + 1, 2, none⟩ = some (.int .i64 0) := blk_cell b2 2
  have f2 := blk_frozen b2 2
  have p3 : ((w.alloc (.cells (PCs s wt fu off) 60)).alloc (.cells (PCs ByteArray.empty ByteArray.empty 0 false) 60)).cell? ⟨w.heap.size, 3, none⟩ = some (.bool off) := blk_cell b1 3
  have o3 : ((w.alloc (.cells (PCs s wt fu off) 60)).alloc (.cells (PCs ByteArray.empty ByteArray.empty 0 false) 60)).cell? ⟨w.heap.size + 1, 3, none⟩ = some (.bool false) := blk_cell b2 3
  have f3 := blk_frozen b2 3
  have HP := Lib.hid b1
  have HO := Lib.hid b2
  have HB := Lib.hid hB0
  clear b1 b2 hB0
  go_wp2
  go_quiet (fail)
  go_wp2_with fail
  refine (HF.out _).mono ?_
  rintro E w2 ⟨v, rfl, hb⟩
  have hp : PBl w2 w.heap.size s wt fu off := blk_below (blk_drewN HP.out _) hb
  have ho : PBl w2 (w.heap.size + 1) ByteArray.empty ByteArray.empty 0 false := blk_below (blk_drewN HO.out _) hb
  have hB : Below w.heap.size w w2 := (pw_below_drewN HB.out nq).trans (hb.mono (pw_below_drewN HB.out nq).size)
  clear p0 p1 p2 p3 o0 o1 o2 o3 f0 f1 f2 f3
  have p0 : w2.cell? ⟨w.heap.size, 0, none⟩ = some (.string s) := blk_cell hp 0
  have o0 : w2.cell? ⟨w.heap.size + 1, 0, none⟩ = some (.string ByteArray.empty) := blk_cell ho 0
  have f0 := blk_frozen ho 0
  have p1 : w2.cell? ⟨w.heap.size, 1, none⟩ = some (.string wt) := blk_cell hp 1
  have o1 : w2.cell? ⟨w.heap.size + 1, 1, none⟩ = some (.string ByteArray.empty) := blk_cell ho 1
  have f1 := blk_frozen ho 1
  have p2 : w2.cell? ⟨w.heap.size, 2, none⟩ = some (.int .i64 fu) := blk_cell hp 2
  have o2 : w2.cell? ⟨w.heap.size + 1, 2, none⟩ = some (.int .i64 0) := blk_cell ho 2
  have f2 := blk_frozen ho 2
  have p3 : w2.cell? ⟨w.heap.size, 3, none⟩ = some (.bool off) := blk_cell hp 3
  have o3 : w2.cell? ⟨w.heap.size + 1, 3, none⟩ = some (.bool false) := blk_cell ho 3
  have f3 := blk_frozen ho 3
  have HO2 := Lib.hid ho
  have HB2 := Lib.hid hB
  clear hp ho hB hb
  go_wp2
  refine bodyPost_ret (v := .agg (PCs (S.extract 0 en.toNat) ByteArray.empty (-1) false)) (res_cr (ob := w.heap.size + 1) rfl (blk_set (blk_set (blk_set (blk_set HO2.out 0 _) 1 _) 2 _) 3 _)) rfl ⟨rfl, below_set (below_set (below_set (below_set HB2.out (Nat.le_succ _)) (Nat.le_succ _)) (Nat.le_succ _)) (Nat.le_succ _)⟩
theorem rcrash_c (s wt : ByteArray) (fu : Int) (off : Bool) (keep : Int) (en : Int) (hs : s.size + wt.size ≤ 1000000000000000) (hR : RdC (s ++ wt.extract 0 (min keep.toNat wt.size)) en) (h0 : 0 ≤ en) (h1 : en ≤ ((s ++ wt.extract 0 (min keep.toNat wt.size)).size : Int)) (w : World) :
    CrC s wt fu off keep w ((s ++ wt.extract 0 (min keep.toNat wt.size)).extract 0 en.toNat) := by
  by_cases c1 : keep < 0
  · have e : s ++ wt.extract 0 (min keep.toNat wt.size) = s := by rw [show min keep.toNat wt.size = 0 by omega, ByteArray.extract_same, ByteArray.append_empty]
    rw [e] at hR h1 ⊢
    exact rcr_a s wt fu off keep en c1 (by omega) hR h1 h0 w
  · by_cases c2 : (wt.size : Int) < keep
    · have e : s ++ wt.extract 0 (min keep.toNat wt.size) = s ++ wt := by rw [show min keep.toNat wt.size = wt.size by omega, ByteArray.extract_zero_size]
      rw [e] at hR h1 ⊢
      exact rcr_b s wt fu off keep en _ rfl c2 hs hR h1 h0 w
    · rw [show min keep.toNat wt.size = keep.toNat by omega] at hR h1 ⊢
      exact rcr_c s wt fu off keep en _ _ rfl rfl (by omega) (by omega) (by rw [ByteArray.size_extract]; omega) hR h1 h0 w
end Go.Proofs.Ytiknkkkfkifahaa.Sa
