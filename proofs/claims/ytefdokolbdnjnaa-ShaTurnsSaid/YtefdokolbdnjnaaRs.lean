import Derived.Test.YtefdokolbdnjnaaRb
import Derived.Test.YtefdokolbdnjnaaRp
import Derived.Test.YtefdokolbdnjnaaSu
/-
  The reference's Sum walked: a text's digest. By an AI agent.
-/
namespace Go.Proofs.Ytefdokolbdnjnaa.Sa
open Go.Proofs.Ytefdokolbdnjnaa.Sm
open Go.RowKit Go.Proofs.YtefdokolbdnjnaaW.PrintWords Go.Proofs.YtefdokolbdnjnaaW.PrintLast Go.Proofs.YtefdokolbdnjnaaW.PrintMore
set_option linter.unusedVariables false
set_option linter.unusedSimpArgs false

section
variable {P : Program} {ops : Array Oper} {o : Oper} {a : Act} {Kc : Act → World → Prop} {Q' : Exit → Act → World → Prop}
theorem nums_append_step {w0 W : World} (base : Nat) (hw : Region.wanted o (yielded ops a.tmps) = true) (s x : Operand) (t e : TypeId) (k : IntKind) (bytes : Nat)
    (ho : o.op = .call { callee := .builtin .append, args := #[s, x], argTypes := #[t, t] })
    (ht : P.underlying t = some (.slice e)) (hinfo : (P.info? e).map (fun i => (i.zero, i.size, i.bytes)) = some (some (.int k 0), 1, bytes)) (hb0 : 0 < bytes)
    (v : Value) (xs ys : List Int) (hs : a.eval s = v) (hx : a.eval x = .slice (some ⟨W.heap.size, 0, none⟩) ys.length ys.length)
    (HO : W.ownsRow base e 1 v xs.length (nums k xs)) (HB : Below base w0 W) (hbase : base ≤ W.heap.size) (hl : (xs.length + ys.length) * bytes ≤ 140737488355328)
    (h : ∀ v1 w1, w1.ownsRow base e 1 v1 (xs ++ ys).length (nums k (xs ++ ys)) → Below base w0 w1 → W.grownBy w1 v.ownBlock → Kc (a.put o.dst v1) w1) :
    if Region.wanted o (yielded ops a.tmps) = true then Oper.wp P o a (W.alloc (.cells (nums k ys).toArray e)) Kc Q' else Kc (a.put o.dst undef) (W.alloc (.cells (nums k ys).toArray e)) := by
  obtain ⟨i0, hi, hzz⟩ := Option.map_eq_some_iff.1 hinfo
  simp only [Prod.mk.injEq] at hzz
  obtain ⟨hz0, hz1, hz2⟩ := hzz
  have hlen : xs.length + ys.length ≤ 140737488355328 := Nat.le_trans (Nat.le_mul_of_pos_right _ hb0) hl
  obtain ⟨v1, w1, hr, h2, h3, _, h5⟩ := run_append_own_at (P := P) (W.alloc (.cells (nums k ys).toArray e)) base t o.type e i0 (.int k 0) 1 bytes ht hi hz0 hz1 hz2 rfl (by omega) v xs.length (nums k xs) (HO.alloc _) ⟨W.heap.size, 0, none⟩ ys.length ys.length (nums k ys) (by rw [nums_length]; omega)
    (fun j u hu => by
      rw [add_plain]
      refine (blk_cell (blk_new W _) j).trans ?_
      simpa using hu) (by intro u hu; simp only [nums, List.mem_map] at hu; obtain ⟨q, _, rfl⟩ := hu; rfl) (by simp only [maxLen]; omega) hl (by simp; omega)
  rw [if_pos hw]
  unfold Oper.wp execOp
  simp only [ho, resolve, invoke, builtin, Sem.run_bind, Sem.run_pure, Result.andThen_ok, List.map_toArray, List.map_cons, List.map_nil, hs, hx, hr]
  exact h v1 w1 (by simpa [nums] using h2) ((HB.alloc hbase _).grown h3 (by simp; omega) (own_base HO)) (World.grownBy.trans (World.grownBy_alloc W _ _) h3)
end
/-- the four bytes as the region spells them -/
def b4w (x : Int) : List Int := [IntKind.u8.wrap (x / 16777216), IntKind.u8.wrap (x / 65536 % 256), IntKind.u8.wrap (x / 256 % 256), IntKind.u8.wrap (x % 256)]
theorem b4w_eq (x : Int) : b4w x = b4 x := by
  unfold b4w b4
  simp only [IntKind.wrap_u8]
  congr 1
  congr 1
  · omega
  congr 1
  · omega
  congr 1
  · omega

set_option maxHeartbeats 8000000 in
set_option maxRecDepth 100000 in
theorem rsum_c (s : ByteArray) (hs : s.size ≤ 140737488351232) (w : World) :
    Calls Try.prog 32 #[.string s] w fun e w' => e = .returned (.string (sumB s)) ∧ Below w.heap.size w w' := by
  go_enter Try.func32, Try.ntmps32
  go_wp2_with fail
  refine (rfirst_c _).mono ?_
  rintro e w2 ⟨rfl, hb1⟩
  have HB2 := Lib.hid hb1
  clear hb1
  go_wp2_with (refine Go.wpList_store_row rfl 26 (.tmp 3) (.tmp 8) rfl w2.heap.size (cellsU firstL) rfl rfl 26 _ (new_ _ _ rfl) (by kernel_rfl) rfl (cellsU_one _) ?_)
  refine (rpad_c s hs _).mono ?_
  rintro e w3 ⟨rfl, hb3⟩
  have G1 : w3.heap[w2.heap.size]? = some (.cells (cellsU firstL) 26 (0, 0)) := blk_below (setRow_heap _ _ _ _ _ _ (new_ _ _ rfl)) hb3
  have HB3 := Lib.hid (below_step (below_setRow (HB2.out.alloc HB2.out.size _) HB2.out.size _) hb3)
  clear hb3
  have hgb : w.heap.size ≤ w2.heap.size := HB2.out.size
  obtain ⟨p, ep⟩ : ∃ p, p = padB s := ⟨_, rfl⟩
  have hps := padB_size s
  have hp64 := padB_64 s
  rw [← ep] at hps hp64 ⊢
  have HP := Lib.hid ep
  clear ep
  obtain ⟨n, hn⟩ : ∃ n, n = p.size / 64 := ⟨_, rfl⟩
  rw [← hn] at hp64
  have HN := Lib.hid hn
  have hnb : n ≤ 2199023255552 := by omega
  have HPS := Lib.hid hps
  have HP64 := Lib.hid hp64
  clear hn hps hp64
  generalize w2.heap.size = g at G1 hgb ⊢
  clear HB2
  go_wp2_with fail
  go_loopw [5] (fun i wr => ∃ j : Nat, j ≤ n ∧ i = .int .i64 (64 * (j : Int)) ∧ wr.heap[g]? = some (.cells (cellsU (stN p j).list) 26 (0, 0)) ∧ Hid (Below w.heap.size w wr)) (fun i _ => (64 * n - (intOf i).toNat))
  case atStart => exact ⟨0, Nat.zero_le _, rfl, G1, HB3⟩
  case round =>
    clear G1 HB3
    obtain ⟨j, hj, rfl, hg, HB⟩ := hrel
    by_cases hlt : j < n
    · have hsz := HP64.out
      have l1 : 64 * j + 64 ≤ p.size := by omega
      have q1 : IntKind.i64.wrap (64 * (j : Int) + 64) = 64 * (j : Int) + 64 := (i64_w _).trans (Go.IntWalk.wrap64_in _ (by omega))
      have sl : ∀ w, (Instr.slice 9 (.string p) (some (.int .i64 (64 * (j : Int)))) (some (.int .i64 (64 * (j : Int) + 64))) none).run Try.prog w = .ok (.string (p.extract (64 * j) (64 * j + 64))) w := fun w => by
        have h := run_slice_string (P := Try.prog) w 9 p .i64 .i64 (64 * (j : Int)) (64 * (j : Int) + 64) Try.underlying9 (by omega) (by omega) (by omega)
        have e1 : (64 * (j : Int)).toNat = 64 * j := by omega
        have e2 : (64 * (j : Int) + 64).toNat = 64 * j + 64 := by omega
        rw [e1, e2] at h
        exact h
      have EX := Lib.hid (show (p.extract (64 * j) (64 * j + 64)).size = 64 by rw [ByteArray.size_extract]; omega)
      have lt : (64 * (j : Int)) < (p.size : Int) := by omega
      have HG := Aside0.mk (show wr.drew.heap[g]? = some (.cells (cellsU (stN p j).list) 26 (0, 0)) from hg)
      replace HB := Aside0.mk HB.out
      clear hsz l1 hg
      go_wp2_with fail
      refine start_ (n := 11) (S := fun w' : World => w'.heap[g]? = some (.cells (cellsU (stN p j).list) 26 (0, 0))) (ds := [10]) #[false, false, false, false, false, false, false, false, false, false, false] (by kernel_rfl) rfl rfl HG.out (fun hHeld => ?_)
      replace HG := Aside0.mk hHeld
      replace HB := Aside0.mk (below_drew1 HB.out)
      generalize wr.drew = w1 at hHeld HG HB ⊢
      refine pure_ (i := 1) (N := some 19) (v := ?_) (a' := ?_) #[false, true, false, false, false, false, false, false, false, false, false] rfl rfl (by kernel_rfl) (fun _ _ _ h => h) (Or.inl ⟨by rfl, ?_⟩) ?_ ?_
      rotate_left
      · intro w'
        go_simp
        with_reducible rfl
      rotate_left
      · simp only [Act.put, List.setIfInBounds_toArray, List.set_cons_zero, List.set_cons_succ, i64_w, i32_w]
        rfl
      refine pure_ (i := 2) (N := some 20) (v := ?_) (a' := ?_) #[false, true, true, false, false, false, false, false, false, false, false] rfl rfl (by kernel_rfl) (fun _ _ _ h => h) (Or.inl ⟨by rfl, ?_⟩) ?_ ?_
      rotate_left
      · intro w'
        go_simp
        with_reducible rfl
      rotate_left
      · simp only [Act.put, List.setIfInBounds_toArray, List.set_cons_zero, List.set_cons_succ, i64_w, i32_w]
        rfl
      refine pure_ (i := 3) (N := some 21) (v := ?_) (a' := ?_) #[false, true, true, true, false, false, false, false, false, false, false] rfl rfl (by kernel_rfl) (fun _ _ _ h => h) (Or.inl ⟨by rfl, ?_⟩) ?_ ?_
      rotate_left
      · intro w'
        go_simp
        with_reducible rfl
      rotate_left
      · simp only [Act.put, List.setIfInBounds_toArray, List.set_cons_zero, List.set_cons_succ, i64_w, i32_w]
        rfl
      refine pure_ (i := 4) (N := some 22) (v := ?_) (a' := ?_) #[false, true, true, true, true, false, false, false, false, false, false] rfl rfl (by kernel_rfl) (fun _ _ _ h => h) (Or.inl ⟨by rfl, ?_⟩) ?_ ?_
      rotate_left
      · intro w'
        go_simp
        with_reducible rfl
      rotate_left
      · simp only [Act.put, List.setIfInBounds_toArray, List.set_cons_zero, List.set_cons_succ, i64_w, i32_w]
        rfl
      refine pure_ (i := 5) (N := some 23) (v := ?_) (a' := ?_) #[false, true, true, true, true, true, false, false, false, false, false] rfl rfl (by kernel_rfl) (fun _ _ _ h => h) (Or.inl ⟨by rfl, ?_⟩) ?_ ?_
      rotate_left
      · intro w'
        go_simp
        with_reducible rfl
      rotate_left
      · simp only [Act.put, List.setIfInBounds_toArray, List.set_cons_zero, List.set_cons_succ, i64_w, i32_w]
        rfl
      refine take_ (i := 0) (N := some 18) (v := .agg (cellsU (stN p j).list)) (a' := ?_) #[true, true, true, true, true, true, false, false, false, false, false] rfl rfl (by kernel_rfl) (fun _ _ _ h => h) (Or.inl ⟨by rfl, ?_⟩) hHeld ?_ ?_
      · rintro w' s0
        exact exec_load_row _ rfl rfl s0 Try.underlying26 rfl (by kernel_rfl)
      rotate_left
      · simp only [Act.put, List.setIfInBounds_toArray, List.set_cons_zero, List.set_cons_succ, i64_w, i32_w]
        rfl
      refine one_ (i := 6) (N := some 24) #[true, true, true, true, true, true, true, false, false, false, false] rfl rfl (by kernel_rfl) (by decide) (fun K hK => ?_)
      refine goes_ Try.func36 (by kernel_rfl) rfl #[.agg (cellsU (stN p j).list), .string (p.extract (64 * j) (64 * j + 64))] (by rfl) rfl rfl (by (try simp only [List.map_toArray, List.map_cons, List.map_nil]); first | done | rfl) ?_
      refine (rblock_yes (stN p j) (stN_U p j) (p.extract (64 * j) (64 * j + 64)) EX.out _).mono ?_
      rintro e w2 ⟨rfl, hb⟩
      refine ⟨_, rfl, ?_⟩
      have n0_ := Aside0.mk (blk_below HG.out hb)
      have n2_ := Aside0.mk (below_step HB.out hb)
      clear HG HB hb
      have HG := n0_
      have HB := n2_
      clear n0_ n2_
      refine hK.out _ _ HG.out (fun hHeld => ?_)
      clear hK K
      refine norm_ (a' := ?_) ?_ ?_
      rotate_left
      · show Act.put _ (some 24) _ = _
        simp only [Act.put, List.setIfInBounds_toArray, List.set_cons_zero, List.set_cons_succ, i64_w, i32_w]
        rfl
      refine pure_ (i := 7) (N := some 17) (v := ?_) (a' := ?_) #[true, true, true, true, true, true, true, true, false, false, false] rfl rfl (by kernel_rfl) (fun _ _ _ h => h) (Or.inl ⟨by rfl, ?_⟩) ?_ ?_
      rotate_left
      · intro w'
        go_simp
        with_reducible rfl
      rotate_left
      · simp only [Act.put, List.setIfInBounds_toArray, List.set_cons_zero, List.set_cons_succ, i64_w, i32_w]
        rfl
      refine pure_ (i := 8) (N := some 25) (v := ?_) (a' := ?_) #[true, true, true, true, true, true, true, true, true, false, false] rfl rfl (by kernel_rfl) (fun _ _ _ h => h) (Or.inl ⟨by rfl, ?_⟩) ?_ ?_
      rotate_left
      · intro w'
        go_simp
        with_reducible rfl
      rotate_left
      · simp only [Act.put, List.setIfInBounds_toArray, List.set_cons_zero, List.set_cons_succ, i64_w, i32_w]
        rfl
      refine pure_ (i := 9) (N := some 26) (v := ?_) (a' := ?_) #[true, true, true, true, true, true, true, true, true, true, false] rfl rfl (by kernel_rfl) (fun _ _ _ h => h) (Or.inl ⟨by rfl, ?_⟩) ?_ ?_
      rotate_left
      · intro w'
        go_simp
        with_reducible rfl
      rotate_left
      · simp only [Act.put, List.setIfInBounds_toArray, List.set_cons_zero, List.set_cons_succ, i64_w, i32_w]
        rfl
      refine last_ (i := 10) (N := none) #[true, true, true, true, true, true, true, true, true, true, true] rfl rfl (by kernel_rfl) (by decide) (fun K hK => ?_)
      refine skip_ (w1 := w2.setRow g (cellsU (stN p (j + 1)).list)) (by rfl) rfl ?_ ?_
      · exact exec_store_row _ rfl rfl rfl HG.out (by kernel_rfl) rfl (cellsU_one _)
      refine hK.out _ _ ?_
      clear hK K
      refine done_ (by kernel_rfl) ?_
      clear sl q1 lt
      go_wp2_with fail
      go_roundw
      case rel =>
        refine ⟨j + 1, by omega, ?_, setRow_heap _ _ _ _ _ _ HG.out, Lib.hid (below_setRow HB.out (by omega) _)⟩
        first | rfl | (congr 1; omega) | go_num
      case measure => simp [intOf]; omega
    · obtain rfl : j = n := by omega
      have hsz := HP64.out
      have lt : ¬ (64 * (j : Int)) < (p.size : Int) := by omega
      clear hsz hlt hj
      obtain ⟨w4, rfl⟩ : ∃ w4 : World, w4 = wr := ⟨_, rfl⟩
      obtain ⟨S, eS⟩ : ∃ S, S = stN p j := ⟨_, rfl⟩
      rw [← eS] at hg
      have ES := Lib.hid eS
      clear eS
      go_wp2_with fail
      clear lt
      go_loopw [6, 7] (fun v s wr => ∃ k : Nat, k ≤ 8 ∧ s = .int .i64 k ∧ Hid (wr.ownsRow w.heap.size 5 1 v ((S.list.take k).flatMap b4).length (nums .u8 ((S.list.take k).flatMap b4))) ∧ Hid (wr.heap[g]? = some (.cells (cellsU S.list) 26 (0, 0))) ∧ Hid (Below w.heap.size w wr)) (fun _ s _ => 8 - (intOf s).toNat)
      case atStart => exact ⟨0, by omega, rfl, Lib.hid (own_nil _ _ _ _), Lib.hid hg, HB⟩
      case round =>
        clear hg HB
        obtain ⟨k, hk, rfl, HO, HG, HB⟩ := hrel
        by_cases hlt : k < 8
        · obtain ⟨X, eX⟩ : ∃ X, X = S.list.getD k 0 := ⟨_, rfl⟩
          have c0 : wr.cell? ⟨g, k, none⟩ = some (.int .u32 X) := by rw [eX]; exact (blk_cell HG.out k).trans (cellsU_get _ _ hlt)
          have uX : U X := by rw [eX, ES.out]; exact getD_U (stN_U p j) k
          have x0 := uX.1
          have x1 := uX.2
          have t1 : X.tdiv 16777216 = X / 16777216 := Int.tdiv_eq_ediv_of_nonneg x0
          have t2 : X.tdiv 65536 = X / 65536 := Int.tdiv_eq_ediv_of_nonneg x0
          have t3 : X.tdiv 256 = X / 256 := Int.tdiv_eq_ediv_of_nonneg x0
          have t4 : (X / 65536).tmod 256 = X / 65536 % 256 := Int.tmod_eq_emod_of_nonneg (by omega)
          have t5 : (X / 256).tmod 256 = X / 256 % 256 := Int.tmod_eq_emod_of_nonneg (by omega)
          have t6 : X.tmod 256 = X % 256 := Int.tmod_eq_emod_of_nonneg x0
          have w1 : IntKind.u32.wrap (X / 16777216) = X / 16777216 := wrap_id ⟨by omega, by omega⟩
          have w2 : IntKind.u32.wrap (X / 65536) = X / 65536 := wrap_id ⟨by omega, by omega⟩
          have w3 : IntKind.u32.wrap (X / 256) = X / 256 := wrap_id ⟨by omega, by omega⟩
          have w4 : IntKind.u32.wrap (X / 65536 % 256) = X / 65536 % 256 := wrap_id ⟨by omega, by omega⟩
          have w5 : IntKind.u32.wrap (X / 256 % 256) = X / 256 % 256 := wrap_id ⟨by omega, by omega⟩
          have w6 : IntKind.u32.wrap (X % 256) = X % 256 := wrap_id ⟨by omega, by omega⟩
          have r1 := fun w' => run_at8 g k hlt (k : Int) rfl w'
          have HL := Lib.hid (show ((S.list.take k).flatMap b4).length = 4 * k by rw [b4_len, List.length_take]; show 4 * min k 8 = _; omega)
          have EX := Lib.hid eX
          clear eX uX
          go_wp2_with fail
          refine start_ (n := 26) (S := fun w' : World => w'.cell? ⟨g, k, none⟩ = some (.int .u32 X)) (ds := [24]) #[false, false, false, false, false, false, false, false, false, false, false, false, false, false, false, false, false, false, false, false, false, false, false, false, false, false] (by kernel_rfl) rfl rfl c0 (fun hHeld => ?_)
          have HO2 := Lib.hid (show wr.drew.ownsRow _ _ _ _ _ _ from HO.out)
          have HG2 := Lib.hid (show wr.drew.heap[g]? = _ from HG.out)
          have HB2 := Lib.hid (below_drew1 HB.out)
          have b0 : wr.drew.cell? ⟨g, k, none⟩ = some (.int .u32 X) := c0
          clear HO HG HB c0
          generalize wr.drew = w2 at HO2 HG2 HB2 hHeld b0 ⊢
          refine pure_ (i := 0) (N := some 31) (v := ?_) (a' := ?_) #[true, false, false, false, false, false, false, false, false, false, false, false, false, false, false, false, false, false, false, false, false, false, false, false, false, false] rfl rfl (by kernel_rfl) (fun _ _ _ h => h) (Or.inl ⟨by rfl, ?_⟩) ?_ ?_
          rotate_left
          · intro w'
            go_simp
            with_reducible rfl
          rotate_left
          · simp only [Act.put, List.setIfInBounds_toArray, List.set_cons_zero, List.set_cons_succ, i64_w, i32_w]
            rfl
          refine pure_ (i := 1) (N := some 32) (v := ?_) (a' := ?_) #[true, true, false, false, false, false, false, false, false, false, false, false, false, false, false, false, false, false, false, false, false, false, false, false, false, false] rfl rfl (by kernel_rfl) (fun _ _ _ h => h) (Or.inl ⟨by rfl, ?_⟩) ?_ ?_
          rotate_left
          · intro w'
            go_simp
            with_reducible rfl
          rotate_left
          · simp only [Act.put, List.setIfInBounds_toArray, List.set_cons_zero, List.set_cons_succ, i64_w, i32_w]
            rfl
          refine pure_ (i := 2) (N := some 33) (v := ?_) (a' := ?_) #[true, true, true, false, false, false, false, false, false, false, false, false, false, false, false, false, false, false, false, false, false, false, false, false, false, false] rfl rfl (by kernel_rfl) (fun _ _ _ h => h) (Or.inl ⟨by rfl, ?_⟩) ?_ ?_
          rotate_left
          · intro w'
            go_simp
            with_reducible rfl
          rotate_left
          · simp only [Act.put, List.setIfInBounds_toArray, List.set_cons_zero, List.set_cons_succ, i64_w, i32_w]
            rfl
          refine take_ (i := 3) (N := some 34) (v := ?_) (a' := ?_) #[true, true, true, true, false, false, false, false, false, false, false, false, false, false, false, false, false, false, false, false, false, false, false, false, false, false] rfl rfl (by kernel_rfl) (fun _ _ _ h => h) (Or.inl ⟨by rfl, ?_⟩) hHeld ?_ ?_
          rotate_left
          · rintro w' s0
            go_simp
            with_reducible rfl
          rotate_left
          · simp only [Act.put, List.setIfInBounds_toArray, List.set_cons_zero, List.set_cons_succ, i64_w, i32_w]
            rfl
          refine pure_ (i := 4) (N := some 35) (v := ?_) (a' := ?_) #[true, true, true, true, true, false, false, false, false, false, false, false, false, false, false, false, false, false, false, false, false, false, false, false, false, false] rfl rfl (by kernel_rfl) (fun _ _ _ h => h) (Or.inl ⟨by rfl, ?_⟩) ?_ ?_
          rotate_left
          · intro w'
            go_simp
            with_reducible rfl
          rotate_left
          · simp only [Act.put, List.setIfInBounds_toArray, List.set_cons_zero, List.set_cons_succ, i64_w, i32_w]
            rfl
          refine pure_ (i := 5) (N := some 36) (v := ?_) (a' := ?_) #[true, true, true, true, true, true, false, false, false, false, false, false, false, false, false, false, false, false, false, false, false, false, false, false, false, false] rfl rfl (by kernel_rfl) (fun _ _ _ h => h) (Or.inl ⟨by rfl, ?_⟩) ?_ ?_
          rotate_left
          · intro w'
            go_simp
            with_reducible rfl
          rotate_left
          · simp only [Act.put, List.setIfInBounds_toArray, List.set_cons_zero, List.set_cons_succ, i64_w, i32_w]
            rfl
          refine pure_ (i := 6) (N := some 37) (v := ?_) (a' := ?_) #[true, true, true, true, true, true, true, false, false, false, false, false, false, false, false, false, false, false, false, false, false, false, false, false, false, false] rfl rfl (by kernel_rfl) (fun _ _ _ h => h) (Or.inl ⟨by rfl, ?_⟩) ?_ ?_
          rotate_left
          · intro w'
            go_simp
            with_reducible rfl
          rotate_left
          · simp only [Act.put, List.setIfInBounds_toArray, List.set_cons_zero, List.set_cons_succ, i64_w, i32_w]
            rfl
          refine pure_ (i := 7) (N := some 38) (v := ?_) (a' := ?_) #[true, true, true, true, true, true, true, true, false, false, false, false, false, false, false, false, false, false, false, false, false, false, false, false, false, false] rfl rfl (by kernel_rfl) (fun _ _ _ h => h) (Or.inl ⟨by rfl, ?_⟩) ?_ ?_
          rotate_left
          · intro w'
            go_simp
            with_reducible rfl
          rotate_left
          · simp only [Act.put, List.setIfInBounds_toArray, List.set_cons_zero, List.set_cons_succ, i64_w, i32_w]
            rfl
          refine take_ (i := 8) (N := some 39) (v := ?_) (a' := ?_) #[true, true, true, true, true, true, true, true, true, false, false, false, false, false, false, false, false, false, false, false, false, false, false, false, false, false] rfl rfl (by kernel_rfl) (fun _ _ _ h => h) (Or.inl ⟨by rfl, ?_⟩) hHeld ?_ ?_
          rotate_left
          · rintro w' s0
            go_simp
            with_reducible rfl
          rotate_left
          · simp only [Act.put, List.setIfInBounds_toArray, List.set_cons_zero, List.set_cons_succ, i64_w, i32_w]
            rfl
          refine pure_ (i := 9) (N := some 40) (v := ?_) (a' := ?_) #[true, true, true, true, true, true, true, true, true, true, false, false, false, false, false, false, false, false, false, false, false, false, false, false, false, false] rfl rfl (by kernel_rfl) (fun _ _ _ h => h) (Or.inl ⟨by rfl, ?_⟩) ?_ ?_
          rotate_left
          · intro w'
            go_simp
            with_reducible rfl
          rotate_left
          · simp only [Act.put, List.setIfInBounds_toArray, List.set_cons_zero, List.set_cons_succ, i64_w, i32_w]
            rfl
          refine pure_ (i := 10) (N := some 41) (v := ?_) (a' := ?_) #[true, true, true, true, true, true, true, true, true, true, true, false, false, false, false, false, false, false, false, false, false, false, false, false, false, false] rfl rfl (by kernel_rfl) (fun _ _ _ h => h) (Or.inl ⟨by rfl, ?_⟩) ?_ ?_
          rotate_left
          · intro w'
            go_simp
            with_reducible rfl
          rotate_left
          · simp only [Act.put, List.setIfInBounds_toArray, List.set_cons_zero, List.set_cons_succ, i64_w, i32_w]
            rfl
          refine pure_ (i := 11) (N := some 42) (v := ?_) (a' := ?_) #[true, true, true, true, true, true, true, true, true, true, true, true, false, false, false, false, false, false, false, false, false, false, false, false, false, false] rfl rfl (by kernel_rfl) (fun _ _ _ h => h) (Or.inl ⟨by rfl, ?_⟩) ?_ ?_
          rotate_left
          · intro w'
            go_simp
            with_reducible rfl
          rotate_left
          · simp only [Act.put, List.setIfInBounds_toArray, List.set_cons_zero, List.set_cons_succ, i64_w, i32_w]
            rfl
          refine pure_ (i := 12) (N := some 43) (v := ?_) (a' := ?_) #[true, true, true, true, true, true, true, true, true, true, true, true, true, false, false, false, false, false, false, false, false, false, false, false, false, false] rfl rfl (by kernel_rfl) (fun _ _ _ h => h) (Or.inl ⟨by rfl, ?_⟩) ?_ ?_
          rotate_left
          · intro w'
            go_simp
            with_reducible rfl
          rotate_left
          · simp only [Act.put, List.setIfInBounds_toArray, List.set_cons_zero, List.set_cons_succ, i64_w, i32_w]
            rfl
          refine pure_ (i := 13) (N := some 44) (v := ?_) (a' := ?_) #[true, true, true, true, true, true, true, true, true, true, true, true, true, true, false, false, false, false, false, false, false, false, false, false, false, false] rfl rfl (by kernel_rfl) (fun _ _ _ h => h) (Or.inl ⟨by rfl, ?_⟩) ?_ ?_
          rotate_left
          · intro w'
            go_simp
            with_reducible rfl
          rotate_left
          · simp only [Act.put, List.setIfInBounds_toArray, List.set_cons_zero, List.set_cons_succ, i64_w, i32_w]
            rfl
          refine take_ (i := 14) (N := some 45) (v := ?_) (a' := ?_) #[true, true, true, true, true, true, true, true, true, true, true, true, true, true, true, false, false, false, false, false, false, false, false, false, false, false] rfl rfl (by kernel_rfl) (fun _ _ _ h => h) (Or.inl ⟨by rfl, ?_⟩) hHeld ?_ ?_
          rotate_left
          · rintro w' s0
            go_simp
            with_reducible rfl
          rotate_left
          · simp only [Act.put, List.setIfInBounds_toArray, List.set_cons_zero, List.set_cons_succ, i64_w, i32_w]
            rfl
          refine pure_ (i := 15) (N := some 46) (v := ?_) (a' := ?_) #[true, true, true, true, true, true, true, true, true, true, true, true, true, true, true, true, false, false, false, false, false, false, false, false, false, false] rfl rfl (by kernel_rfl) (fun _ _ _ h => h) (Or.inl ⟨by rfl, ?_⟩) ?_ ?_
          rotate_left
          · intro w'
            go_simp
            with_reducible rfl
          rotate_left
          · simp only [Act.put, List.setIfInBounds_toArray, List.set_cons_zero, List.set_cons_succ, i64_w, i32_w]
            rfl
          refine pure_ (i := 16) (N := some 47) (v := ?_) (a' := ?_) #[true, true, true, true, true, true, true, true, true, true, true, true, true, true, true, true, true, false, false, false, false, false, false, false, false, false] rfl rfl (by kernel_rfl) (fun _ _ _ h => h) (Or.inl ⟨by rfl, ?_⟩) ?_ ?_
          rotate_left
          · intro w'
            go_simp
            with_reducible rfl
          rotate_left
          · simp only [Act.put, List.setIfInBounds_toArray, List.set_cons_zero, List.set_cons_succ, i64_w, i32_w]
            rfl
          refine pure_ (i := 17) (N := some 48) (v := ?_) (a' := ?_) #[true, true, true, true, true, true, true, true, true, true, true, true, true, true, true, true, true, true, false, false, false, false, false, false, false, false] rfl rfl (by kernel_rfl) (fun _ _ _ h => h) (Or.inl ⟨by rfl, ?_⟩) ?_ ?_
          rotate_left
          · intro w'
            go_simp
            with_reducible rfl
          rotate_left
          · simp only [Act.put, List.setIfInBounds_toArray, List.set_cons_zero, List.set_cons_succ, i64_w, i32_w]
            rfl
          refine pure_ (i := 18) (N := some 49) (v := ?_) (a' := ?_) #[true, true, true, true, true, true, true, true, true, true, true, true, true, true, true, true, true, true, true, false, false, false, false, false, false, false] rfl rfl (by kernel_rfl) (fun _ _ _ h => h) (Or.inl ⟨by rfl, ?_⟩) ?_ ?_
          rotate_left
          · intro w'
            go_simp
            with_reducible rfl
          rotate_left
          · simp only [Act.put, List.setIfInBounds_toArray, List.set_cons_zero, List.set_cons_succ, i64_w, i32_w]
            rfl
          refine pure_ (i := 19) (N := some 50) (v := ?_) (a' := ?_) #[true, true, true, true, true, true, true, true, true, true, true, true, true, true, true, true, true, true, true, true, false, false, false, false, false, false] rfl rfl (by kernel_rfl) (fun _ _ _ h => h) (Or.inl ⟨by rfl, ?_⟩) ?_ ?_
          rotate_left
          · intro w'
            go_simp
            with_reducible rfl
          rotate_left
          · simp only [Act.put, List.setIfInBounds_toArray, List.set_cons_zero, List.set_cons_succ, i64_w, i32_w]
            rfl
          refine take_ (i := 20) (N := some 51) (v := ?_) (a' := ?_) #[true, true, true, true, true, true, true, true, true, true, true, true, true, true, true, true, true, true, true, true, true, false, false, false, false, false] rfl rfl (by kernel_rfl) (fun _ _ _ h => h) (Or.inl ⟨by rfl, ?_⟩) hHeld ?_ ?_
          rotate_left
          · rintro w' s0
            go_simp
            with_reducible rfl
          rotate_left
          · simp only [Act.put, List.setIfInBounds_toArray, List.set_cons_zero, List.set_cons_succ, i64_w, i32_w]
            rfl
          refine pure_ (i := 21) (N := some 52) (v := ?_) (a' := ?_) #[true, true, true, true, true, true, true, true, true, true, true, true, true, true, true, true, true, true, true, true, true, true, false, false, false, false] rfl rfl (by kernel_rfl) (fun _ _ _ h => h) (Or.inl ⟨by rfl, ?_⟩) ?_ ?_
          rotate_left
          · intro w'
            go_simp
            with_reducible rfl
          rotate_left
          · simp only [Act.put, List.setIfInBounds_toArray, List.set_cons_zero, List.set_cons_succ, i64_w, i32_w]
            rfl
          refine pure_ (i := 22) (N := some 53) (v := ?_) (a' := ?_) #[true, true, true, true, true, true, true, true, true, true, true, true, true, true, true, true, true, true, true, true, true, true, true, false, false, false] rfl rfl (by kernel_rfl) (fun _ _ _ h => h) (Or.inl ⟨by rfl, ?_⟩) ?_ ?_
          rotate_left
          · intro w'
            go_simp
            with_reducible rfl
          rotate_left
          · simp only [Act.put, List.setIfInBounds_toArray, List.set_cons_zero, List.set_cons_succ, i64_w, i32_w]
            rfl
          refine one_ (i := 23) (N := some 54) #[true, true, true, true, true, true, true, true, true, true, true, true, true, true, true, true, true, true, true, true, true, true, true, true, false, false] rfl rfl (by kernel_rfl) (by decide) (fun K hK => ?_)
          refine value_ (v := ?_) (w1 := ?_) (by rfl) rfl ?_ ?_
          rotate_left
          rotate_left
          · go_simp
            first | rfl | (constructor <;> rfl)
          refine hK.out _ _ (cell_alloc b0 _) (fun hHeld => ?_)
          clear hK K
          refine norm_ (a' := ?_) ?_ ?_
          rotate_left
          · show Act.put _ (some 54) _ = _
            simp only [Act.put, List.setIfInBounds_toArray, List.set_cons_zero, List.set_cons_succ, i64_w, i32_w]
            rfl
          refine last_ (i := 24) (N := some 55) #[true, true, true, true, true, true, true, true, true, true, true, true, true, true, true, true, true, true, true, true, true, true, true, true, true, false] rfl rfl (by kernel_rfl) (by decide) (fun K hK => ?_)
          refine nums_append_step (w0 := w) w.heap.size (by rfl) (.tmp 31) (.tmp 54) 93 5 .u8 1 rfl Try.underlying93 info_u8 (by decide) _ ((S.list.take k).flatMap b4) (b4w X) rfl rfl HO2.out HB2.out HB2.out.size (by rw [HL.out]; show (4 * k + 4) * 1 ≤ _; omega) ?_
          intro v1 w3 hown hbel hg
          have HO3 := Lib.hid hown
          have HB3 := Lib.hid hbel
          have HG3 := Lib.hid (blk_grown HG2.out hg (own_ne HO2.out HG2.out (by decide)))
          clear hown hbel hg HO2 HB2 HG2
          refine hK.out _ _ ?_
          clear hK K
          refine norm_ (a' := ?_) ?_ ?_
          rotate_left
          · show Act.put _ (some 55) _ = _
            simp only [Act.put, List.setIfInBounds_toArray, List.set_cons_zero, List.set_cons_succ, i64_w, i32_w]
            rfl
          refine pure_ (i := 25) (N := some 6) (v := ?_) (a' := ?_) #[true, true, true, true, true, true, true, true, true, true, true, true, true, true, true, true, true, true, true, true, true, true, true, true, true, true] rfl rfl (by kernel_rfl) (fun _ _ _ h => h) (Or.inl ⟨by rfl, ?_⟩) ?_ ?_
          rotate_left
          · intro w'
            go_simp
            with_reducible rfl
          rotate_left
          · simp only [Act.put, List.setIfInBounds_toArray, List.set_cons_zero, List.set_cons_succ, i64_w, i32_w]
            rfl
          refine done_ (by kernel_rfl) ?_
          go_wp2_with fail
          go_roundw
          case rel =>
            have e : (S.list.take (k + 1)).flatMap b4 = (S.list.take k).flatMap b4 ++ b4w X := by
              have hk' : k < S.list.length := hlt
              rw [List.take_succ_eq_append_getElem hk', List.flatMap_append, b4w_eq, EX.out, List.getD_eq_getElem?_getD, List.getElem?_eq_getElem hk']
              simp
            refine ⟨k + 1, by omega, by go_num, Lib.hid ?_, HG3, HB3⟩
            rw [e]
            exact HO3.out
          case measure => simp [intOf]; omega
        · obtain rfl : k = 8 := by omega
          have e8 : (S.list.take 8).flatMap b4 = (S.list.flatMap bytes4).map fun b => ((b.toNat : Nat) : Int) := by
            have := outL_bytes S (by rw [ES.out]; exact stN_U _ _)
            unfold outL at this
            simpa using this
          rw [e8] at HO
          have cv := own_string (P := Try.prog) (src := 93) (dst := 9) Try.underlying93 Try.underlying5 Try.underlying9 HO.out
          rw [str_bytes] at cv
          clear HO e8 hlt hk
          go_wp2_with fail
          go_ret
          refine ⟨?_, HB.out⟩
          show Ending.returned (.string ⟨(S.list.flatMap bytes4).toArray⟩) = _
          unfold sumB
          rw [sumS_stN, ← HP.out, ← HN.out, ← ES.out]
end Go.Proofs.Ytefdokolbdnjnaa.Sa
