import Derived.Test.YtokkkeepifpbpaaAp
/-
  share.Open walked: what shares open. By an AI agent.
-/
namespace Go.Proofs.Ytokkkeepifpbpaa.Fl
open Flt
open Go.RowKit Go.Proofs.YtokkkeepifpbpaaW.PrintWords Go.Proofs.YtokkkeepifpbpaaW.PrintLast Go.Proofs.YtokkkeepifpbpaaW.PrintMore
set_option linter.unusedVariables false
set_option linter.unusedSimpArgs false

def oddS (l : List (Int × Gm.E)) : Bool := decide (0 ≤ ix (fun i => (fun x : Int × Gm.E => !mayB x.2.1 x.2.2) (l.getD i (0, (0, 0)))) l.length)
/-- what is opened from place i on, beside o; wt: by what a share counts -/
def sumFrom (l : List (Int × Gm.E)) (wt : Nat → Gm.E) : Nat → Nat → Gm.E → Gm.E
  | 0, _, o => o
  | r + 1, i, o => sumFrom l wt r (i + 1) (opE Gm.add o (opE Gm.mul (l.getD i (0, (0, 0))).2 (wt i)))
def openE (l : List (Int × Gm.E)) (wt : Nat → Gm.E) : Gm.E × Int := if l.length = 0 then ((0, 0), 1) else if apB l = false then ((0, 0), 1) else if oddS l = true then ((0, 0), 1) else (sumFrom l wt l.length 0 (0, 0), 0)
theorem rowS_below {W W' : World} {A : Option Addr} {l : List (Int × Gm.E)} (h : RowS W A l) (hb : Below W.heap.size W W') : RowS W' A l := by
  intro i hi
  obtain ⟨ad, e, h0, h1, h2⟩ := h i hi
  exact ⟨ad, e, (hb.cell (World.block_lt_of_cell? W _ h0)).trans h0, (hb.cell (World.block_lt_of_cell? W _ h1)).trans h1, (hb.cell (World.block_lt_of_cell? W _ h2)).trans h2⟩

set_option maxHeartbeats 8000000 in
set_option maxRecDepth 100000 in
/-- The ways on which nothing is opened. -/
theorem open_no (A : Option Addr) (c : Nat) (l : List (Int × Gm.E)) (w : World) (hr : RowS w A l) (hlen : l.length ≤ 9223372036854775807) (hno : l.length = 0 ∨ apB l = false ∨ oddS l = true) :
    Calls Try.prog 45 #[.slice A l.length c] w fun e w' => e = .returned (.tuple #[.agg #[.int .i64 0, .int .i64 0], .int .i64 1]) ∧ Below w.heap.size w w' := by
  have B0 : Below w.heap.size w (w.alloc (.cells #[.int .i64 0, .int .i64 0] 23)) := (Below.refl _ _).alloc (Nat.le_refl _) _
  have R0 : (w.alloc (.cells #[.int .i64 0, .int .i64 0] 23)).heap[w.heap.size]? = some (.cells #[.int .i64 0, .int .i64 0] 23 (0, 0)) := new_ _ _ rfl
  by_cases h0 : l.length = 0
  · have d0 : (((l.length : Nat) : Int) == 0) = true := by rw [h0]; rfl
    have HB0 := Lib.hid B0
    clear hr hlen hno R0 B0 h0
    go_enter Try.func45, Try.ntmps45
    go_wp2
    refine bodyPost_ret (v := .tuple #[.agg #[.int .i64 0, .int .i64 0], .int .i64 1]) ?_ rfl ⟨rfl, HB0.out⟩
    simp [results, Try.results45, go_sem]
  · have d0 : (((l.length : Nat) : Int) == 0) = false := by rw [beq_eq_false_iff_ne]; omega
    have HA := Lib.hid (apart_c A c l _ (rowS_below hr B0) hlen)
    have HR := Lib.hid (rowS_below hr B0)
    have HL := Lib.hid hlen
    have HB0 := Lib.hid B0
    have HR0 := Lib.hid R0
    cases h1 : apB l with
    | false =>
      rw [h1] at HA
      clear hr hlen hno R0 B0 h0 h1
      go_enter Try.func45, Try.ntmps45
      go_wp2_with fail
      refine HA.out.mono ?_
      rintro e w1 ⟨rfl, hb⟩
      have R1 := blk_below HR0.out hb
      have r1 : w1.cell? ⟨w.heap.size, 0, none⟩ = some (.int .i64 0) := (blk_cell R1 0).trans rfl
      have r2 : w1.cell? ⟨w.heap.size, 1, none⟩ = some (.int .i64 0) := (blk_cell R1 1).trans rfl
      have f1 := blk_frozen R1 0
      have f2 := blk_frozen R1 1
      have HB1 := Lib.hid (HB0.out.trans (hb.mono HB0.out.size))
      clear hb R1
      go_wp2
      refine bodyPost_ret (v := .tuple #[.agg #[.int .i64 0, .int .i64 0], .int .i64 1]) ?_ rfl ⟨rfl, ?_⟩
      · simp [results, Try.results45, go_sem, r1, r2]
      · exact below_set (below_set HB1.out (Nat.le_refl _)) (Nat.le_refl _)
    | true =>
      have h2 : oddS l = true := by
        rcases hno with h | h | h
        · exact absurd h h0
        · rw [h1] at h; cases h
        · exact h
      rw [h1] at HA
      have HO := Lib.hid h2
      clear hr hlen hno R0 B0 h0 h1 h2
      go_enter Try.func45, Try.ntmps45
      go_wp2_with fail
      refine HA.out.mono ?_
      rintro e w1 ⟨rfl, hb⟩
      have R1 := Lib.hid (blk_below HR0.out hb)
      have HB1 := Lib.hid (HB0.out.trans (hb.mono HB0.out.size))
      have HC := contains_share A c l 58 (fun x => !mayB x.2.1 x.2.2) w1 (rowS_below HR.out hb) (by have := HL.out; omega) (enters_c Try.func58 rfl rfl) (fun W x => open_odd x.1 x.2.1 x.2.2 W)
      have h2 := HO.out
      unfold oddS at h2
      rw [h2] at HC
      have HC := Lib.hid HC
      clear hb h2
      go_wp2_with fail
      refine HC.out.mono ?_
      rintro e w2 ⟨rfl, hb⟩
      have R2 := blk_below R1.out hb
      have r1 : w2.cell? ⟨w.heap.size, 0, none⟩ = some (.int .i64 0) := (blk_cell R2 0).trans rfl
      have r2 : w2.cell? ⟨w.heap.size, 1, none⟩ = some (.int .i64 0) := (blk_cell R2 1).trans rfl
      have f1 := blk_frozen R2 0
      have f2 := blk_frozen R2 1
      have HB2 := Lib.hid (HB1.out.trans (hb.mono HB1.out.size))
      clear hb R2
      go_wp2
      refine bodyPost_ret (v := .tuple #[.agg #[.int .i64 0, .int .i64 0], .int .i64 1]) ?_ rfl ⟨rfl, ?_⟩
      · simp [results, Try.results45, go_sem, r1, r2]
      · exact below_set (below_set HB2.out (Nat.le_refl _)) (Nat.le_refl _)

set_option maxHeartbeats 16000000 in
set_option maxRecDepth 100000 in
theorem open_yes (A : Option Addr) (c : Nat) (l : List (Int × Gm.E)) (wt : Nat → Gm.E) (w : World) (hr : RowS w A l) (hlen : l.length ≤ 9223372036854775807) (h0 : l.length ≠ 0) (h1 : apB l = true) (h2 : oddS l = false)
    (hw : ∀ k, k < l.length → ∀ W, Below w.heap.size w W → Calls Try.prog 61 #[.slice A l.length c, .int .i64 k] W fun e w' => e = .returned (.agg #[.int .i64 (wt k).1, .int .i64 (wt k).2]) ∧ Below W.heap.size W w') :
    Calls Try.prog 45 #[.slice A l.length c] w fun e w' => e = .returned (.tuple #[.agg #[.int .i64 (sumFrom l wt l.length 0 (0, 0)).1, .int .i64 (sumFrom l wt l.length 0 (0, 0)).2], .int .i64 0]) ∧ Below w.heap.size w w' := by
  have B0 : Below w.heap.size w (w.alloc (.cells #[.int .i64 0, .int .i64 0] 23)) := (Below.refl _ _).alloc (Nat.le_refl _) _
  have R0 : (w.alloc (.cells #[.int .i64 0, .int .i64 0] 23)).heap[w.heap.size]? = some (.cells #[.int .i64 0, .int .i64 0] 23 (0, 0)) := new_ _ _ rfl
  have d0 : (((l.length : Nat) : Int) == 0) = false := by rw [beq_eq_false_iff_ne]; omega
  have HA := Lib.hid (apart_c A c l _ (rowS_below hr B0) hlen)
  have HR := Lib.hid hr
  have HL := Lib.hid hlen
  have HB0 := Lib.hid B0
  have HR0 := Lib.hid R0
  have HW := Lib.hid hw
  rw [h1] at HA
  have HO := Lib.hid h2
  clear hr hlen R0 B0 h0 h1 h2 hw
  go_enter Try.func45, Try.ntmps45
  go_wp2_with fail
  refine HA.out.mono ?_
  rintro e w1 ⟨rfl, hb⟩
  have R1 := Lib.hid (blk_below HR0.out hb)
  have HB1 := Lib.hid (HB0.out.trans (hb.mono HB0.out.size))
  have HC := contains_share A c l 58 (fun x => !mayB x.2.1 x.2.2) w1 (rowS_below HR.out HB1.out) (by have := HL.out; omega) (enters_c Try.func58 rfl rfl) (fun W x => open_odd x.1 x.2.1 x.2.2 W)
  have h2 := HO.out
  unfold oddS at h2
  rw [h2] at HC
  have HC := Lib.hid HC
  clear hb h2
  go_wp2_with fail
  refine HC.out.mono ?_
  rintro e w2 ⟨rfl, hb⟩
  have R2 := Lib.hid (blk_below R1.out hb)
  have HB2 := Lib.hid (HB1.out.trans (hb.mono HB1.out.size))
  have hlt2 : w.heap.size < w2.heap.size := blk_lt R2.out
  have HS := Lib.hid hlt2
  clear hb hlt2 HC HA
  go_wp2
  generalize hob : w2.heap.size = ob
  go_loopg [6, 23] l.length (fun gg _ s8 wr => ∃ (kk : Nat) (o : Gm.E), kk ≤ l.length ∧ l.length - kk ≤ gg ∧ s8 = .int .i64 kk ∧ Aside0 (Below w.heap.size w wr) ∧ Aside0 (wr.heap[w.heap.size]? = some (.cells #[.int .i64 0, .int .i64 0] 23 (0, 0))) ∧ Aside0 (wr.heap[ob]? = some (.cells #[.int .i64 o.1, .int .i64 o.2] 23 (0, 0))) ∧ Aside0 (sumFrom l wt (l.length - kk) kk o = sumFrom l wt l.length 0 (0, 0)))
  case atStart =>
    subst hob
    exact ⟨0, (0, 0), Nat.zero_le _, by omega, rfl, ⟨HB2.out.alloc HB2.out.size _⟩, ⟨blk_alloc R2.out _⟩, ⟨new_ _ _ rfl⟩, ⟨rfl⟩⟩
  case round =>
    obtain ⟨kk, o, hkk, hg, rfl, HB, BR, BO, FI⟩ := hrel
    have GO := Lib.hid (show w.heap.size ≤ ob by rw [← hob]; exact HB2.out.size)
    have NE := Lib.hid (show w.heap.size ≠ ob by rw [← hob]; have := HS.out; omega)
    clear hob
    by_cases hlt : kk < l.length
    · have hltz := eq_true (show (kk : Int) < (l.length : Int) by omega)
      have p147 := eq_true (show 0 ≤ (kk : Int) by omega)
      obtain ⟨ad147, e147, hx0, hx1, hx2⟩ := HR.out kk hlt
      cases e147
      have hw1 := hx1
      have hw2 := hx2
      replace hx0 := (HB.out.cell (World.block_lt_of_cell? w _ hx0)).trans hx0
      replace hx1 := (HB.out.cell (World.block_lt_of_cell? w _ hx1)).trans hx1
      replace hx2 := (HB.out.cell (World.block_lt_of_cell? w _ hx2)).trans hx2
      have FI' := FI.out
      rw [show l.length - kk = (l.length - (kk + 1)) + 1 by omega, sumFrom] at FI'
      generalize hy : l.getD kk (0, (0, 0)) = y at hx0 hx1 hx2 hw1 hw2 FI'
      have tn : ((kk : Int)).toNat = kk := Int.toNat_natCast kk
      have HF := Lib.hid FI'
      have hwr : wrap64 ((kk : Int) + 1) = ((kk + 1 : Nat) : Int) := by have := HL.out; rw [Go.IntWalk.wrap64_in _ (by omega)]; omega
      clear hy FI FI'
      go_wp2_with fail
      have BR := Aside0.mk (blk_drew BR.out)
      have BO := Aside0.mk (blk_drew BO.out)
      have HB := Aside0.mk (below_drew1 HB.out)
      refine start_ (n := 12) (S := fun w' => w'.cell? ⟨ob, 0, none⟩ = some (.int .i64 o.1) ∧ w'.cell? ⟨ob, 1, none⟩ = some (.int .i64 o.2) ∧ w'.cell? ⟨(ad147.add (kk * 3)).block, (ad147.add (kk * 3)).off + 1, none⟩ = some (.int .i64 y.2.1) ∧ w'.cell? ⟨(ad147.add (kk * 3)).block, (ad147.add (kk * 3)).off + 2, none⟩ = some (.int .i64 y.2.2)) (ds := [11]) #[false, false, false, false, false, false, false, false, false, false, false, false] (by kernel_rfl) rfl rfl ⟨(blk_cell BO.out 0).trans rfl, (blk_cell BO.out 1).trans rfl, ((HB.out.cell (World.block_lt_of_cell? w _ hw1)).trans hw1), ((HB.out.cell (World.block_lt_of_cell? w _ hw2)).trans hw2)⟩ (fun hHeld => ?_)
      generalize wr.drew = w14 at BR BO HB hx0 hx1 hx2 hHeld ⊢
      refine pure_ (i := 1) (N := some 27) (v := ?_) (a' := ?_) #[false, true, false, false, false, false, false, false, false, false, false, false] rfl rfl (by kernel_rfl) (fun _ _ _ h => h) (Or.inl ⟨by rfl, ?_⟩) ?_ ?_
      rotate_left
      · intro w'
        go_simp
        with_reducible rfl
      rotate_left
      · simp only [Act.put, List.setIfInBounds_toArray, List.set_cons_zero, List.set_cons_succ, i64_w, i32_w]
        rfl
      refine pure_ (i := 2) (N := some 28) (v := ?_) (a' := ?_) #[false, true, true, false, false, false, false, false, false, false, false, false] rfl rfl (by kernel_rfl) (fun _ _ _ h => h) (Or.inl ⟨by rfl, ?_⟩) ?_ ?_
      rotate_left
      · intro w'
        go_simp
        with_reducible rfl
      rotate_left
      · simp only [Act.put, List.setIfInBounds_toArray, List.set_cons_zero, List.set_cons_succ, i64_w, i32_w]
        rfl
      refine pure_ (i := 3) (N := some 29) (v := ?_) (a' := ?_) #[false, true, true, true, false, false, false, false, false, false, false, false] rfl rfl (by kernel_rfl) (fun _ _ _ h => h) (Or.inl ⟨by rfl, ?_⟩) ?_ ?_
      rotate_left
      · intro w'
        go_simp
        with_reducible rfl
      rotate_left
      · simp only [Act.put, List.setIfInBounds_toArray, List.set_cons_zero, List.set_cons_succ, i64_w, i32_w]
        rfl
      refine pure_ (i := 4) (N := some 30) (v := ?_) (a' := ?_) #[false, true, true, true, true, false, false, false, false, false, false, false] rfl rfl (by kernel_rfl) (fun _ _ _ h => h) (Or.inl ⟨by rfl, ?_⟩) ?_ ?_
      rotate_left
      · intro w'
        go_simp
        with_reducible rfl
      rotate_left
      · simp only [Act.put, List.setIfInBounds_toArray, List.set_cons_zero, List.set_cons_succ, i64_w, i32_w]
        rfl
      refine pure_ (i := 6) (N := some 32) (v := ?_) (a' := ?_) #[false, true, true, true, true, false, true, false, false, false, false, false] rfl rfl (by kernel_rfl) (fun _ _ _ h => h) (Or.inl ⟨by rfl, ?_⟩) ?_ ?_
      rotate_left
      · intro w'
        go_simp
        with_reducible rfl
      rotate_left
      · simp only [Act.put, List.setIfInBounds_toArray, List.set_cons_zero, List.set_cons_succ, i64_w, i32_w]
        rfl
      refine pure_ (i := 7) (N := some 33) (v := ?_) (a' := ?_) #[false, true, true, true, true, false, true, true, false, false, false, false] rfl rfl (by kernel_rfl) (fun _ _ _ h => h) (Or.inl ⟨by rfl, ?_⟩) ?_ ?_
      rotate_left
      · intro w'
        go_simp
        with_reducible rfl
      rotate_left
      · simp only [Act.put, List.setIfInBounds_toArray, List.set_cons_zero, List.set_cons_succ, i64_w, i32_w]
        rfl
      refine take_ (i := 0) (N := some 26) (v := ?_) (a' := ?_) #[true, true, true, true, true, false, true, true, false, false, false, false] rfl rfl (by kernel_rfl) (fun _ _ _ h => h) (Or.inl ⟨by rfl, ?_⟩) hHeld ?_ ?_
      rotate_left
      · rintro w' ⟨s0, s1, s2, s3⟩
        go_simp
        with_reducible rfl
      rotate_left
      · simp only [Act.put, List.setIfInBounds_toArray, List.set_cons_zero, List.set_cons_succ, i64_w, i32_w]
        rfl
      refine take_ (i := 5) (N := some 31) (v := ?_) (a' := ?_) #[true, true, true, true, true, true, true, true, false, false, false, false] rfl rfl (by kernel_rfl) (fun _ _ _ h => h) (Or.inl ⟨by rfl, ?_⟩) hHeld ?_ ?_
      rotate_left
      · rintro w' ⟨s0, s1, s2, s3⟩
        go_simp
        with_reducible rfl
      rotate_left
      · simp only [Act.put, List.setIfInBounds_toArray, List.set_cons_zero, List.set_cons_succ, i64_w, i32_w]
        rfl
      refine one_ (i := 8) (N := some 34) #[true, true, true, true, true, true, true, true, true, false, false, false] rfl rfl (by kernel_rfl) (by decide) (fun K hK => ?_)
      refine goes_ Try.func61 (by kernel_rfl) rfl #[.slice (some ad147) l.length c, .int .i64 kk] (by rfl) rfl rfl (by (try simp only [List.map_toArray, List.map_cons, List.map_nil]); first | done | rfl) ?_
      refine (HW.out kk hlt _ HB.out).mono ?_
      rintro e wq8 ⟨rfl, hb⟩
      refine ⟨_, rfl, ?_⟩
      have n1_ := Aside0.mk (blk_below BR.out hb)
      have n2_ := Aside0.mk (blk_below BO.out hb)
      have n3_ := Aside0.mk (below_step HB.out hb)
      clear BR BO HB
      have BR := n1_
      have BO := n2_
      have HB := n3_
      clear n1_ n2_ n3_ hb
      refine hK.out _ _ ⟨(blk_cell BO.out 0).trans rfl, (blk_cell BO.out 1).trans rfl, ((HB.out.cell (World.block_lt_of_cell? w _ hw1)).trans hw1), ((HB.out.cell (World.block_lt_of_cell? w _ hw2)).trans hw2)⟩ (fun hHeld => ?_)
      clear hK K
      refine norm_ (a' := ?_) ?_ ?_
      rotate_left
      · show Act.put _ (some 34) _ = _
        simp only [Act.put, List.setIfInBounds_toArray, List.set_cons_zero, List.set_cons_succ, i64_w, i32_w]
        rfl
      refine one_ (i := 9) (N := some 35) #[true, true, true, true, true, true, true, true, true, true, false, false] rfl rfl (by kernel_rfl) (by decide) (fun K hK => ?_)
      refine goes_ Try.func29 (by kernel_rfl) rfl #[.agg #[.int .i64 y.2.1, .int .i64 y.2.2], .agg #[.int .i64 (wt kk).1, .int .i64 (wt kk).2]] (by rfl) rfl rfl (by (try simp only [List.map_toArray, List.map_cons, List.map_nil]); first | done | rfl) ?_
      refine (mul_c y.2.1 y.2.2 (wt kk).1 (wt kk).2 _).mono ?_
      rintro e wq9 ⟨rfl, hb⟩
      refine ⟨_, rfl, ?_⟩
      have n1_ := Aside0.mk (blk_below BR.out hb)
      have n2_ := Aside0.mk (blk_below BO.out hb)
      have n3_ := Aside0.mk (below_step HB.out hb)
      clear BR BO HB
      have BR := n1_
      have BO := n2_
      have HB := n3_
      clear n1_ n2_ n3_ hb
      refine hK.out _ _ ⟨(blk_cell BO.out 0).trans rfl, (blk_cell BO.out 1).trans rfl, ((HB.out.cell (World.block_lt_of_cell? w _ hw1)).trans hw1), ((HB.out.cell (World.block_lt_of_cell? w _ hw2)).trans hw2)⟩ (fun hHeld => ?_)
      clear hK K
      refine norm_ (a' := ?_) ?_ ?_
      rotate_left
      · show Act.put _ (some 35) _ = _
        simp only [Act.put, List.setIfInBounds_toArray, List.set_cons_zero, List.set_cons_succ, i64_w, i32_w]
        rfl
      refine one_ (i := 10) (N := some 36) #[true, true, true, true, true, true, true, true, true, true, true, false] rfl rfl (by kernel_rfl) (by decide) (fun K hK => ?_)
      refine goes_ Try.func31 (by kernel_rfl) rfl #[.agg #[.int .i64 o.1, .int .i64 o.2], .agg #[.int .i64 (opE Gm.mul y.2 (wt kk)).1, .int .i64 (opE Gm.mul y.2 (wt kk)).2]] (by rfl) rfl rfl (by (try simp only [List.map_toArray, List.map_cons, List.map_nil]); first | done | rfl) ?_
      refine (add_c o.1 o.2 (opE Gm.mul y.2 (wt kk)).1 (opE Gm.mul y.2 (wt kk)).2 _).mono ?_
      rintro e wq10 ⟨rfl, hb⟩
      refine ⟨_, rfl, ?_⟩
      have n1_ := Aside0.mk (blk_below BR.out hb)
      have n2_ := Aside0.mk (blk_below BO.out hb)
      have n3_ := Aside0.mk (below_step HB.out hb)
      clear BR BO HB
      have BR := n1_
      have BO := n2_
      have HB := n3_
      clear n1_ n2_ n3_ hb
      refine hK.out _ _ ⟨(blk_cell BO.out 0).trans rfl, (blk_cell BO.out 1).trans rfl, ((HB.out.cell (World.block_lt_of_cell? w _ hw1)).trans hw1), ((HB.out.cell (World.block_lt_of_cell? w _ hw2)).trans hw2)⟩ (fun hHeld => ?_)
      clear hK K
      refine norm_ (a' := ?_) ?_ ?_
      rotate_left
      · show Act.put _ (some 36) _ = _
        simp only [Act.put, List.setIfInBounds_toArray, List.set_cons_zero, List.set_cons_succ, i64_w, i32_w]
        rfl
      refine last_ (i := 11) (N := none) #[true, true, true, true, true, true, true, true, true, true, true, true] rfl rfl (by kernel_rfl) (by decide) (fun K hK => ?_)
      have hs17 : wq10.cell? ⟨ob, 0, none⟩ = some (.int .i64 o.1) := (blk_cell BO.out 0).trans rfl
      have hfs17 := blk_frozen BO.out 0
      have hs18 : wq10.cell? ⟨ob, 1, none⟩ = some (.int .i64 o.2) := (blk_cell BO.out 1).trans rfl
      have hfs18 := blk_frozen BO.out 1
      refine skip_ (w1 := ?_) (by rfl) rfl ?_ ?_
      rotate_left
      · go_simp
        rfl
      refine hK.out _ _ ?_
      clear hK K
      refine done_ (by kernel_rfl) ?_
      try go_wp2
      go_roundg (l.length - (kk + 1))
      case measure => omega
      case rel =>
        refine ⟨kk + 1, opE Gm.add o (opE Gm.mul y.2 (wt kk)), by omega, by omega, by first | exact congrArg _ hwr | go_num, ⟨below_set (below_set HB.out GO.out) GO.out⟩, ⟨blk_far (blk_far BR.out NE.out _) NE.out _⟩, ⟨?_⟩, ⟨HF.out⟩⟩
        refine blk_put (cs := #[.int .i64 (opE Gm.add o (opE Gm.mul y.2 (wt kk))).1, .int .i64 o.2]) ?_ 1 _ rfl
        exact blk_put (cs := #[.int .i64 o.1, .int .i64 o.2]) BO.out 0 _ rfl
    · have hltz := eq_false (show ¬ (kk : Int) < (l.length : Int) by omega)
      have FI' := FI.out
      rw [show l.length - kk = 0 by omega, sumFrom] at FI'
      have HF := Lib.hid FI'
      have r1 : wr.cell? ⟨w.heap.size, 0, none⟩ = some (.int .i64 0) := (blk_cell BR.out 0).trans rfl
      have r2 : wr.cell? ⟨w.heap.size, 1, none⟩ = some (.int .i64 0) := (blk_cell BR.out 1).trans rfl
      have r3 := blk_frozen BR.out 0
      have r4 := blk_frozen BR.out 1
      have o1 : wr.cell? ⟨ob, 0, none⟩ = some (.int .i64 o.1) := (blk_cell BO.out 0).trans rfl
      have o2 : wr.cell? ⟨ob, 1, none⟩ = some (.int .i64 o.2) := (blk_cell BO.out 1).trans rfl
      clear FI FI' BR BO
      go_wp2
      refine bodyPost_ret (v := .tuple #[.agg #[.int .i64 o.1, .int .i64 o.2], .int .i64 0]) ?_ rfl ⟨by rw [HF.out], below_set (below_set HB.out (Nat.le_refl _)) (Nat.le_refl _)⟩
      simp [results, Try.results45, go_sem, r1, r2]

theorem open_c (A : Option Addr) (c : Nat) (l : List (Int × Gm.E)) (wt : Nat → Gm.E) (w : World) (hr : RowS w A l) (hlen : l.length ≤ 9223372036854775807)
    (hw : ∀ k, k < l.length → ∀ W, Below w.heap.size w W → Calls Try.prog 61 #[.slice A l.length c, .int .i64 k] W fun e w' => e = .returned (.agg #[.int .i64 (wt k).1, .int .i64 (wt k).2]) ∧ Below W.heap.size W w') :
    Calls Try.prog 45 #[.slice A l.length c] w fun e w' => e = .returned (.tuple #[.agg #[.int .i64 (openE l wt).1.1, .int .i64 (openE l wt).1.2], .int .i64 (openE l wt).2]) ∧ Below w.heap.size w w' := by
  unfold openE
  by_cases h0 : l.length = 0
  · rw [if_pos h0]
    exact open_no A c l w hr hlen (.inl h0)
  · rw [if_neg h0]
    by_cases h1 : apB l = false
    · rw [if_pos h1]
      exact open_no A c l w hr hlen (.inr (.inl h1))
    · rw [if_neg h1]
      by_cases h2 : oddS l = true
      · rw [if_pos h2]
        exact open_no A c l w hr hlen (.inr (.inr h2))
      · rw [if_neg h2]
        exact open_yes A c l wt w hr hlen h0 (by simpa using h1) (by simpa using h2) hw

/-- an inverse, as gauss.Inv gives it -/
def invE (x : Gm.E) : Gm.E := if Gm.Ok x then (if x = (0, 0) then (0, 0) else Gm.pow x Gm.NN) else (0, 0)
/-- by what a share counts, as share.weight reckons -/
def wtFrom (l : List (Int × Gm.E)) (own : Int) (k : Nat) : Nat → Nat → Gm.E → Gm.E
  | 0, _, o => o
  | r + 1, i, o => if i = k then wtFrom l own k r (i + 1) o else wtFrom l own k r (i + 1) (opE Gm.mul o (opE Gm.mul ((l.getD i (0, (0, 0))).1, 0) (invE (opE Gm.sub ((l.getD i (0, (0, 0))).1, 0) (own, 0)))))
def wtE (l : List (Int × Gm.E)) (k : Nat) : Gm.E := wtFrom l (l.getD k (0, (0, 0))).1 k l.length 0 (1, 0)
end Go.Proofs.Ytokkkeepifpbpaa.Fl
