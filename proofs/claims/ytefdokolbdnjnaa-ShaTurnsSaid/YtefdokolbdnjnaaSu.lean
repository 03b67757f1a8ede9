import Derived.Test.YtefdokolbdnjnaaBk
import Derived.Test.YtefdokolbdnjnaaPd
/-
  sha.Sum walked: a text's digest. By an AI agent.
-/
namespace Go.Proofs.Ytefdokolbdnjnaa.Sa
open Go.Proofs.Ytefdokolbdnjnaa.Sm
open Go.RowKit Go.Proofs.YtefdokolbdnjnaaW.PrintWords Go.Proofs.YtefdokolbdnjnaaW.PrintLast Go.Proofs.YtefdokolbdnjnaaW.PrintMore
set_option linter.unusedVariables false
set_option linter.unusedSimpArgs false

/-- the state behind j blocks -/
def stN (p : ByteArray) : Nat → St
  | 0 => firstS
  | j + 1 => mixS (stN p j) (p.extract (64 * j) (64 * j + 64))
theorem firstS_U : firstS.U := by
  intro x hx
  simp only [firstS, St.list, List.mem_cons, List.not_mem_nil, or_false] at hx
  rcases hx with rfl | rfl | rfl | rfl | rfl | rfl | rfl | rfl <;> exact ⟨by decide, by decide⟩
theorem stN_U (p : ByteArray) (j : Nat) : (stN p j).U := by
  cases j with
  | zero => exact firstS_U
  | succ j => exact mixS_U _ _
theorem foldS_stN (p : ByteArray) : ∀ n j, foldS n p (64 * j) (stN p j) = stN p (j + n)
  | 0, j => rfl
  | n + 1, j => by
    rw [foldS, show 64 * j + 64 = 64 * (j + 1) by omega]
    have e : mixS (stN p j) (p.extract (64 * j) (64 * (j + 1))) = stN p (j + 1) := rfl
    rw [e, foldS_stN p n (j + 1)]
    congr 1; omega
theorem sumS_stN (s : ByteArray) : sumS s = stN (padB s) ((padB s).size / 64) := by
  unfold sumS
  have := foldS_stN (padB s) ((padB s).size / 64) 0
  simpa [stN] using this
theorem padB_size (s : ByteArray) : (padB s).size = s.size + 1 + (119 - s.size % 64) % 64 + 8 := by
  show (padL s).toArray.size = _
  have := data_length s
  simp only [padL, List.size_toArray, List.length_append, List.length_cons, List.length_replicate, lenBytes, List.length_map, List.length_range]
  omega
theorem padB_64 (s : ByteArray) : (padB s).size = 64 * ((padB s).size / 64) := by
  have := padB_size s
  omega
/-- bytes of the digest, as numbers -/
def b4 (x : Int) : List Int := [x / 16777216 % 256, x / 65536 % 256, x / 256 % 256, x % 256]
def outL (h : St) (k : Nat) : List Int := (h.list.take k).flatMap b4 ++ List.replicate (32 - 4 * k) 0
theorem b4_len (l : List Int) : (l.flatMap b4).length = 4 * l.length := by
  induction l with
  | nil => rfl
  | cons x l ih => simp only [List.flatMap_cons, List.length_append, ih, List.length_cons]; simp [b4]; omega
theorem set_next (l : List Int) (i n m : Nat) (x : Int) (hi : l.length = i) (hm : m = n + 1) : (nums .u8 (l ++ List.replicate m 0)).toArray.setIfInBounds i (.int .u8 x) = (nums .u8 ((l ++ [x]) ++ List.replicate n 0)).toArray := by
  subst hi hm
  unfold nums
  rw [List.replicate_succ]
  simp
theorem outL_set (h : St) (k : Nat) (hk : k < 8) : ((((nums .u8 (outL h k)).toArray.setIfInBounds (4 * k) (.int .u8 (h.list.getD k 0 / 16777216 % 256))).setIfInBounds (4 * k + 1) (.int .u8 (h.list.getD k 0 / 65536 % 256))).setIfInBounds (4 * k + 2) (.int .u8 (h.list.getD k 0 / 256 % 256))).setIfInBounds (4 * k + 3) (.int .u8 (h.list.getD k 0 % 256)) = (nums .u8 (outL h (k + 1))).toArray := by
  have hl : (h.list.take k).length = k := by rw [List.length_take]; show min k 8 = k; omega
  obtain ⟨P, hP⟩ : ∃ P, P = (h.list.take k).flatMap b4 := ⟨_, rfl⟩
  have hPl : P.length = 4 * k := by rw [hP, b4_len, hl]
  have e0 : outL h k = P ++ List.replicate ((32 - 4 * (k + 1)) + 3 + 1) 0 := by rw [hP]; unfold outL; congr 2; omega
  have e1 : outL h (k + 1) = P ++ b4 (h.list.getD k 0) ++ List.replicate (32 - 4 * (k + 1)) 0 := by
    unfold outL
    have hk' : k < h.list.length := hk
    rw [List.take_succ_eq_append_getElem hk', List.flatMap_append, ← hP, List.getD_eq_getElem?_getD, List.getElem?_eq_getElem hk']
    simp
  rw [e0, e1]
  rw [set_next P (4 * k) ((32 - 4 * (k + 1)) + 3) _ _ hPl rfl]
  rw [set_next _ (4 * k + 1) ((32 - 4 * (k + 1)) + 2) _ _ (by simp [hPl]) rfl]
  rw [set_next _ (4 * k + 2) ((32 - 4 * (k + 1)) + 1) _ _ (by simp [hPl]) rfl]
  rw [set_next _ (4 * k + 3) (32 - 4 * (k + 1)) _ _ (by simp [hPl]) rfl]
  congr 2
  simp [b4]
theorem outL_bytes (h : St) (hU : h.U) : outL h 8 = (h.list.flatMap bytes4).map fun b => ((b.toNat : Nat) : Int) := by
  have e : outL h 8 = h.list.flatMap b4 := by
    unfold outL
    rw [List.take_of_length_le (by show 8 ≤ 8; omega)]
    simp
  rw [e]
  unfold St.U at hU
  generalize h.list = l at hU ⊢
  induction l with
  | nil => rfl
  | cons x l ih =>
    rw [List.flatMap_cons, List.flatMap_cons, List.map_append, ih (fun y hy => hU y (List.mem_cons_of_mem _ hy))]
    congr 1
    have hx := hU x (by simp)
    unfold Sm.U at hx
    simp only [b4, bytes4, List.map_cons, List.map_nil, UInt8.toNat_ofNat']
    congr 1
    · omega
    congr 1
    · omega
    congr 1
    · omega
    congr 1
    · omega
theorem outL_length (h : St) (k : Nat) (hk : k ≤ 8) : (outL h k).length = 32 := by
  unfold outL
  rw [List.length_append, b4_len, List.length_take, List.length_replicate]
  have : h.list.length = 8 := rfl
  omega
theorem run_idx8 (L : List Int) (hL : L.length = 8) (k : Nat) (h : k < 8) (z : Int) (hz : z = k) (w : World) : (Instr.index 26 (.agg (cellsU L)) (.int .i64 z)).run Try.prog w = .ok (.int .u32 (L.getD k 0)) w := by
  subst hz
  have hs : (sizeOf 23).run Try.prog w = .ok 1 w := by kernel_rfl
  have hg : (isAgg 23).run Try.prog w = .ok false w := by kernel_rfl
  have hc := cellsU_get L k (by omega)
  have hb : (0 : Int) ≤ (k : Int) ∧ (k : Int) < ((8 : Nat) : Int) := by omega
  have hu : (underlying 26).run Try.prog w = .ok (.array 8 23) w := run_underlying Try.underlying26 w
  simp only [Instr.index, asIntOf, Sem.run_bind, Sem.run_pure, Result.andThen_ok, hu]
  rw [if_pos hb]
  simp only [Sem.run_bind, hs, Result.andThen_ok, part, hg, Int.toNat_natCast, Nat.mul_one, hc, Bool.false_eq_true, if_false, Sem.run_pure]
theorem run_at32 (g : Nat) (n : Nat) (h : n < 32) (z : Int) (hz : z = n) (w : World) : (Instr.indexAt 95 (.pointer (some ⟨g, 0, none⟩)) (.int .i64 z)).run Try.prog w = .ok (.pointer (some ⟨g, n, none⟩)) w := by
  subst hz
  have ha : Try.prog.arrayLen 95 = 32 := by kernel_rfl
  rw [run_indexAt_array w 95 ⟨g, 0, none⟩ .i64 n (by kernel_rfl), ha, if_pos ⟨by omega, by omega⟩]
  have hs : (sizeOf (Try.prog.elem 95)).run Try.prog w = .ok 1 w := by kernel_rfl
  rw [hs]
  simp [Result.andThen, add_plain]
theorem run_str {A : Option Addr} {n c : Nat} {l : List UInt8} (w : World) (h : ReadsInt w .u8 A n (l.map fun b => ((b.toNat : Nat) : Int))) : (convert 93 9 (.slice A n c)).run Try.prog w = .ok (.string ⟨l.toArray⟩) w := by
  have e := string_of_reads (P := Try.prog) (src := 93) (dst := 9) (c := c) Try.underlying93 Try.underlying5 Try.underlying9 h
  rw [str_bytes] at e
  exact e

set_option maxHeartbeats 8000000 in
set_option maxRecDepth 100000 in
theorem sum_c (s : ByteArray) (hs : s.size ≤ 140737488351232) (w : World) :
    Calls Try.prog 31 #[.string s] w fun e w' => e = .returned (.string (sumB s)) ∧ Below w.heap.size w w' := by
  go_enter Try.func31, Try.ntmps31
  go_wp2_with fail
  refine (first_c _).mono ?_
  rintro e w1 ⟨rfl, hb1⟩
  have HB1 := Lib.hid hb1
  clear hb1
  go_wp2_with fail
  refine (words_c _).mono ?_
  rintro e w2 ⟨rfl, hb2⟩
  have HB2 := Lib.hid (HB1.out.trans (hb2.mono HB1.out.size))
  clear hb2 HB1
  go_wp2_with (first | (refine Go.wpList_store_row rfl 26 (.tmp 3) (.tmp 10) rfl w2.heap.size (cellsU firstL) rfl rfl 26 _ (blk_alloc (new_ _ _ rfl) _) (by kernel_rfl) rfl (cellsU_one _) ?_) | (refine Go.wpList_store_row rfl 24 (.tmp 4) (.tmp 11) rfl (w2.heap.size + 1) (cellsU wordsL) rfl rfl 24 _ ((setRow_other _ _ _ _ (by omega)).trans (new_ _ _ (by simp))) (by kernel_rfl) rfl (cellsU_one _) ?_))
  refine (pad_c s hs _).mono ?_
  rintro e w3 ⟨rfl, hb3⟩
  have G1 : w3.heap[w2.heap.size]? = some (.cells (cellsU firstL) 26 (0, 0)) := blk_below ((setRow_other _ _ _ _ (by omega)).trans (setRow_heap _ _ _ _ _ _ (blk_alloc (new_ _ _ rfl) _))) hb3
  have G2 : w3.heap[w2.heap.size + 1]? = some (.cells (cellsU wordsL) 24 (0, 0)) := blk_below (setRow_heap _ _ _ _ _ _ ((setRow_other _ _ _ _ (by omega)).trans (new_ _ _ (by simp)))) hb3
  have HB3 := Lib.hid (below_step (below_setRow (below_setRow ((HB2.out.alloc HB2.out.size _).alloc (by have := HB2.out.size; simp; omega) _) HB2.out.size _) (by have := HB2.out.size; omega) _) hb3)
  clear hb3
  have hgb : w.heap.size ≤ w2.heap.size := HB2.out.size
  obtain ⟨p, ep⟩ : ∃ p, p = padB s := ⟨_, rfl⟩
  have hps := padB_size s
  have hp64 := padB_64 s
  rw [← ep] at hps hp64 ⊢
  have HP := Lib.hid ep
  clear ep
  obtain ⟨n, hn⟩ : ∃ n, n = p.size / 64 := ⟨_, rfl⟩
  rw [← hn] at hp64
  have HN := Lib.hid hn
  have hnb : n ≤ 2199023255552 := by omega
  have HPS := Lib.hid hps
  have HP64 := Lib.hid hp64
  clear hn hps hp64
  generalize w2.heap.size = g at G1 G2 hgb ⊢
  clear HB2
  go_wp2_with fail
  go_loopw [6] (fun i wr => ∃ j : Nat, j ≤ n ∧ i = .int .i64 (64 * (j : Int)) ∧ wr.heap[g]? = some (.cells (cellsU (stN p j).list) 26 (0, 0)) ∧ wr.heap[g + 1]? = some (.cells (cellsU wordsL) 24 (0, 0)) ∧ Hid (Below w.heap.size w wr)) (fun i _ => (64 * n - (intOf i).toNat))
  case atStart => exact ⟨0, Nat.zero_le _, rfl, G1, G2, HB3⟩
  case round =>
    clear G1 G2 HB3
    obtain ⟨j, hj, rfl, hg, hk, HB⟩ := hrel
    by_cases hlt : j < n
    · have hsz := HP64.out
      have l1 : 64 * j + 64 ≤ p.size := by omega
      have q1 : IntKind.i64.wrap (64 * (j : Int) + 64) = 64 * (j : Int) + 64 := (i64_w _).trans (Go.IntWalk.wrap64_in _ (by omega))
      have sl : ∀ w, (Instr.slice 9 (.string p) (some (.int .i64 (64 * (j : Int)))) (some (.int .i64 (64 * (j : Int) + 64))) none).run Try.prog w = .ok (.string (p.extract (64 * j) (64 * j + 64))) w := fun w => by
        have h := run_slice_string (P := Try.prog) w 9 p .i64 .i64 (64 * (j : Int)) (64 * (j : Int) + 64) Try.underlying9 (by omega) (by omega) (by omega)
        have e1 : (64 * (j : Int)).toNat = 64 * j := by omega
        have e2 : (64 * (j : Int) + 64).toNat = 64 * j + 64 := by omega
        rw [e1, e2] at h
        exact h
      have EX := Lib.hid (show (p.extract (64 * j) (64 * j + 64)).size = 64 by rw [ByteArray.size_extract]; omega)
      have lt : (64 * (j : Int)) < (p.size : Int) := by omega
      have HG := Aside0.mk (show wr.drew.heap[g]? = some (.cells (cellsU (stN p j).list) 26 (0, 0)) from hg)
      have HK := Aside0.mk (show wr.drew.heap[g + 1]? = some (.cells (cellsU wordsL) 24 (0, 0)) from hk)
      replace HB := Aside0.mk HB.out
      clear hsz l1 hg hk
      go_wp2_with fail
      refine start_ (n := 9) (S := fun w' : World => w'.heap[g]? = some (.cells (cellsU (stN p j).list) 26 (0, 0)) ∧ w'.heap[g + 1]? = some (.cells (cellsU wordsL) 24 (0, 0))) (ds := [8]) #[false, false, false, false, false, false, false, false, false] (by kernel_rfl) rfl rfl ⟨HG.out, HK.out⟩ (fun hHeld => ?_)
      replace HG := Aside0.mk hHeld.1
      replace HK := Aside0.mk hHeld.2
      replace HB := Aside0.mk (below_drew1 HB.out)
      generalize wr.drew = w1 at hHeld HG HK HB ⊢
      refine pure_ (i := 1) (N := some 21) (v := ?_) (a' := ?_) #[false, true, false, false, false, false, false, false, false] rfl rfl (by kernel_rfl) (fun _ _ _ h => h) (Or.inl ⟨by rfl, ?_⟩) ?_ ?_
      rotate_left
      · intro w'
        go_simp
        with_reducible rfl
      rotate_left
      · simp only [Act.put, List.setIfInBounds_toArray, List.set_cons_zero, List.set_cons_succ, i64_w, i32_w]
        rfl
      refine pure_ (i := 2) (N := some 22) (v := ?_) (a' := ?_) #[false, true, true, false, false, false, false, false, false] rfl rfl (by kernel_rfl) (fun _ _ _ h => h) (Or.inl ⟨by rfl, ?_⟩) ?_ ?_
      rotate_left
      · intro w'
        go_simp
        with_reducible rfl
      rotate_left
      · simp only [Act.put, List.setIfInBounds_toArray, List.set_cons_zero, List.set_cons_succ, i64_w, i32_w]
        rfl
      refine pure_ (i := 3) (N := some 23) (v := ?_) (a' := ?_) #[false, true, true, true, false, false, false, false, false] rfl rfl (by kernel_rfl) (fun _ _ _ h => h) (Or.inl ⟨by rfl, ?_⟩) ?_ ?_
      rotate_left
      · intro w'
        go_simp
        with_reducible rfl
      rotate_left
      · simp only [Act.put, List.setIfInBounds_toArray, List.set_cons_zero, List.set_cons_succ, i64_w, i32_w]
        rfl
      refine pure_ (i := 4) (N := some 24) (v := ?_) (a' := ?_) #[false, true, true, true, true, false, false, false, false] rfl rfl (by kernel_rfl) (fun _ _ _ h => h) (Or.inl ⟨by rfl, ?_⟩) ?_ ?_
      rotate_left
      · intro w'
        go_simp
        with_reducible rfl
      rotate_left
      · simp only [Act.put, List.setIfInBounds_toArray, List.set_cons_zero, List.set_cons_succ, i64_w, i32_w]
        rfl
      refine pure_ (i := 5) (N := some 25) (v := ?_) (a' := ?_) #[false, true, true, true, true, true, false, false, false] rfl rfl (by kernel_rfl) (fun _ _ _ h => h) (Or.inl ⟨by rfl, ?_⟩) ?_ ?_
      rotate_left
      · intro w'
        go_simp
        with_reducible rfl
      rotate_left
      · simp only [Act.put, List.setIfInBounds_toArray, List.set_cons_zero, List.set_cons_succ, i64_w, i32_w]
        rfl
      refine take_ (i := 0) (N := some 20) (v := .agg (cellsU (stN p j).list)) (a' := ?_) #[true, true, true, true, true, true, false, false, false] rfl rfl (by kernel_rfl) (fun _ _ _ h => h) (Or.inl ⟨by rfl, ?_⟩) hHeld ?_ ?_
      · rintro w' ⟨s0, s1⟩
        exact exec_load_row _ rfl rfl s0 Try.underlying26 rfl (by kernel_rfl)
      rotate_left
      · simp only [Act.put, List.setIfInBounds_toArray, List.set_cons_zero, List.set_cons_succ, i64_w, i32_w]
        rfl
      refine take_ (i := 6) (N := some 26) (v := .agg (cellsU wordsL)) (a' := ?_) #[true, true, true, true, true, true, true, false, false] rfl rfl (by kernel_rfl) (fun _ _ _ h => h) (Or.inl ⟨by rfl, ?_⟩) hHeld ?_ ?_
      · rintro w' ⟨s0, s1⟩
        exact exec_load_row _ rfl rfl s1 Try.underlying24 rfl (by kernel_rfl)
      rotate_left
      · simp only [Act.put, List.setIfInBounds_toArray, List.set_cons_zero, List.set_cons_succ, i64_w, i32_w]
        rfl
      refine one_ (i := 7) (N := some 27) #[true, true, true, true, true, true, true, true, false] rfl rfl (by kernel_rfl) (by decide) (fun K hK => ?_)
      refine goes_ Try.func69 (by kernel_rfl) rfl #[.agg (cellsU (stN p j).list), .string (p.extract (64 * j) (64 * j + 64)), .agg (cellsU wordsL)] (by rfl) rfl rfl (by (try simp only [List.map_toArray, List.map_cons, List.map_nil]); first | done | rfl) ?_
      refine (mixed_c (stN p j) (stN_U p j) (p.extract (64 * j) (64 * j + 64)) EX.out _).mono ?_
      rintro e w2 ⟨rfl, hb⟩
      refine ⟨_, rfl, ?_⟩
      have n0_ := Aside0.mk (blk_below HG.out hb)
      have n1_ := Aside0.mk (blk_below HK.out hb)
      have n2_ := Aside0.mk (below_step HB.out hb)
      clear HG HK HB hb
      have HG := n0_
      have HK := n1_
      have HB := n2_
      clear n0_ n1_ n2_
      refine hK.out _ _ ⟨HG.out, HK.out⟩ (fun hHeld => ?_)
      clear hK K
      refine norm_ (a' := ?_) ?_ ?_
      rotate_left
      · show Act.put _ (some 27) _ = _
        simp only [Act.put, List.setIfInBounds_toArray, List.set_cons_zero, List.set_cons_succ, i64_w, i32_w]
        rfl
      refine last_ (i := 8) (N := none) #[true, true, true, true, true, true, true, true, true] rfl rfl (by kernel_rfl) (by decide) (fun K hK => ?_)
      refine skip_ (w1 := w2.setRow g (cellsU (stN p (j + 1)).list)) (by rfl) rfl ?_ ?_
      · exact exec_store_row _ rfl rfl rfl HG.out (by kernel_rfl) rfl (cellsU_one _)
      refine hK.out _ _ ?_
      clear hK K
      refine done_ (by kernel_rfl) ?_
      clear sl q1 lt
      go_wp2_with fail
      go_roundw
      case rel =>
        refine ⟨j + 1, by omega, ?_, setRow_heap _ _ _ _ _ _ HG.out, (setRow_other _ _ _ _ (by omega)).trans HK.out, Lib.hid (below_setRow HB.out (by omega) _)⟩
        first | rfl | (congr 1; omega) | go_num
      case measure => simp [intOf]; omega
    · obtain rfl : j = n := by omega
      have hsz := HP64.out
      have lt : ¬ (64 * (j : Int)) < (p.size : Int) := by omega
      clear hsz hlt hj
      obtain ⟨w4, rfl⟩ : ∃ w4 : World, w4 = wr := ⟨_, rfl⟩
      obtain ⟨S, eS⟩ : ∃ S, S = stN p j := ⟨_, rfl⟩
      rw [← eS] at hg
      have ES := Lib.hid eS
      clear eS hk
      go_wp2_with (refine wpList_load_row rfl 26 _ rfl g rfl 26 _ (0, 0) _ (blk_alloc hg _) Try.underlying26 rfl (by kernel_rfl) ?_)
      go_loopw [29] (fun s wr => ∃ k : Nat, k ≤ 8 ∧ s = .int .i64 k ∧ wr.heap[w4.heap.size]? = some (.cells (nums .u8 (outL S k)).toArray 95 (0, 0)) ∧ Hid (Below w.heap.size w wr)) (fun s _ => 8 - (intOf s).toNat)
      case atStart => exact ⟨0, by omega, rfl, new_ _ _ rfl, Lib.hid (HB.out.alloc HB.out.size _)⟩
      case round =>
        clear hg
        have hge : w.heap.size ≤ w4.heap.size := HB.out.size
        clear HB
        obtain ⟨k, hk, rfl, ho, HB⟩ := hrel
        by_cases hlt : k < 8
        · have hl : (nums .u8 (outL S k)).toArray.size = 32 := by simp [nums, outL_length S k hk]
          have cc : ∀ i, i < 32 → ∃ v, wr.cell? ⟨w4.heap.size, i, none⟩ = some v := fun i hi => ⟨_, (blk_cell ho i).trans (Array.getElem?_eq_getElem (by omega))⟩
          obtain ⟨v0, c0⟩ := cc (4 * k) (by omega)
          obtain ⟨v1, c1⟩ := cc (4 * k + 1) (by omega)
          obtain ⟨v2, c2⟩ := cc (4 * k + 2) (by omega)
          obtain ⟨v3, c3⟩ := cc (4 * k + 3) (by omega)
          have f0 := blk_frozen ho (4 * k)
          have f1 := blk_frozen ho (4 * k + 1)
          have f2 := blk_frozen ho (4 * k + 2)
          have f3 := blk_frozen ho (4 * k + 3)
          have ri := fun w' => run_idx8 S.list rfl k hlt (k : Int) rfl w'
          have r0 := fun w' => run_at32 w4.heap.size (4 * k) (by omega) (4 * (k : Int)) (by omega) w'
          have r1 := fun w' => run_at32 w4.heap.size (4 * k + 1) (by omega) (4 * (k : Int) + 1) (by omega) w'
          have r2 := fun w' => run_at32 w4.heap.size (4 * k + 2) (by omega) (4 * (k : Int) + 2) (by omega) w'
          have r3 := fun w' => run_at32 w4.heap.size (4 * k + 3) (by omega) (4 * (k : Int) + 3) (by omega) w'
          have HO := Lib.hid ho
          clear hl cc ho
          go_wp2_with fail
          go_roundw
          case rel =>
            refine ⟨k + 1, by omega, by go_num, ?_, Lib.hid (below_set (below_set (below_set (below_set HB.out hge) hge) hge) hge)⟩
            refine (blk_set (blk_set (blk_set (blk_set HO.out _ _) _ _) _ _) _ _).trans ?_
            rw [← outL_set S k hlt]
            simp only [List.getD_eq_getElem?_getD]
          case measure => simp [intOf]; omega
        · obtain rfl : k = 8 := by omega
          have hU : S.U := by rw [ES.out]; exact stN_U _ _
          rw [outL_bytes S hU] at ho
          have hl : (S.list.flatMap bytes4).length = 32 := by
            have := congrArg List.length (outL_bytes S hU)
            rw [outL_length S 8 (by omega)] at this
            simpa using this.symm
          have hrd : ReadsInt wr .u8 (some ⟨w4.heap.size, 0, none⟩) 32 ((S.list.flatMap bytes4).map fun b => ((b.toNat : Nat) : Int)) := by
            refine ⟨by simpa using hl, by omega, fun _ => ⟨_, rfl, fun i hi => ?_⟩⟩
            rw [add_plain]
            refine (blk_cell ho i).trans ?_
            simp [nums, List.getElem?_eq_getElem (show i < (S.list.flatMap bytes4).length by omega)]
          have cv := run_str (c := 32) wr hrd
          have HS := Lib.hid hU
          clear hrd hl ho hU hlt hk
          go_wp2_with fail
          go_ret
          refine ⟨?_, HB.out⟩
          show Ending.returned (.string ⟨(S.list.flatMap bytes4).toArray⟩) = _
          unfold sumB
          rw [sumS_stN, ← HP.out, ← HN.out, ← ES.out]
end Go.Proofs.Ytefdokolbdnjnaa.Sa
