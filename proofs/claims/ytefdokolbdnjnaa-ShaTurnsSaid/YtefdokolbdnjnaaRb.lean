import Derived.Test.YtefdokolbdnjnaaRt
import Derived.Test.YtefdokolbdnjnaaRw
import Derived.Test.YtefdokolbdnjnaaBk
import Derived.Deep.CutRange
/-
  The reference's Block walked: a state behind a block. By an AI agent.
-/
namespace Go.Proofs.Ytefdokolbdnjnaa.Sa
open Go.Proofs.Ytefdokolbdnjnaa.Sm
open Go.RowKit Go.Proofs.YtefdokolbdnjnaaW.PrintWords Go.Proofs.YtefdokolbdnjnaaW.PrintLast Go.Proofs.YtefdokolbdnjnaaW.PrintMore
set_option linter.unusedVariables false
set_option linter.unusedSimpArgs false

section
variable {P : Program} {ops : Array Oper} {o : Oper} {a : Act} {Kc : Act → World → Prop} {Q' : Exit → Act → World → Prop}
theorem num_append_step {w0 W : World} (base : Nat) (hw : Region.wanted o (yielded ops a.tmps) = true) (s x : Operand) (t e : TypeId) (k : IntKind) (bytes : Nat)
    (ho : o.op = .call { callee := .builtin .append, args := #[s, x], argTypes := #[t, t] })
    (ht : P.underlying t = some (.slice e)) (hinfo : (P.info? e).map (fun i => (i.zero, i.size, i.bytes)) = some (some (.int k 0), 1, bytes)) (hb0 : 0 < bytes)
    (v : Value) (xs : List Int) (y : Int) (hs : a.eval s = v) (hx : a.eval x = .slice (some ⟨W.heap.size, 0, none⟩) 1 1)
    (HO : W.ownsRow base e 1 v xs.length (nums k xs)) (HB : Below base w0 W) (hbase : base ≤ W.heap.size) (hl : (xs.length + 1) * bytes ≤ 140737488355328)
    (h : ∀ v1 w1, w1.ownsRow base e 1 v1 (xs ++ [y]).length (nums k (xs ++ [y])) → Below base w0 w1 → W.grownBy w1 v.ownBlock → Kc (a.put o.dst v1) w1) :
    if Region.wanted o (yielded ops a.tmps) = true then Oper.wp P o a (W.alloc (.cells #[.int k y] e)) Kc Q' else Kc (a.put o.dst undef) (W.alloc (.cells #[.int k y] e)) := by
  obtain ⟨i0, hi, hzz⟩ := Option.map_eq_some_iff.1 hinfo
  simp only [Prod.mk.injEq] at hzz
  obtain ⟨hz0, hz1, hz2⟩ := hzz
  have hlen : xs.length + 1 ≤ 140737488355328 := Nat.le_trans (Nat.le_mul_of_pos_right _ hb0) hl
  obtain ⟨v1, w1, hr, h2, h3, _, h5⟩ := run_append_own_at (P := P) (W.alloc (.cells #[.int k y] e)) base t o.type e i0 (.int k 0) 1 bytes ht hi hz0 hz1 hz2 rfl (by omega) v xs.length (nums k xs) (HO.alloc _) ⟨W.heap.size, 0, none⟩ 1 1 [.int k y] rfl
    (World.news_of_block (cs := #[.int k y]) (t := e) (fr := (0, 0)) (Go.heap_alloc_new W _)) (by simp [Value.oneCell']) (by simp only [maxLen]; omega) hl (by simp; omega)
  rw [if_pos hw]
  unfold Oper.wp execOp
  simp only [ho, resolve, invoke, builtin, Sem.run_bind, Sem.run_pure, Result.andThen_ok, List.map_toArray, List.map_cons, List.map_nil, hs, hx, hr]
  exact h v1 w1 (by simpa [nums] using h2) ((HB.alloc hbase _).grown h3 (by simp; omega) (own_base HO)) (World.grownBy.trans (World.grownBy_alloc W _ _) h3)
end
structure RbW (w : World) (h : St) (w' : World) : Prop where
  b0 : w'.heap[w.heap.size]? = some (.cells (cellsU h.list) 26 (0, 0))
  b1 : w'.heap[w.heap.size + 1]? = some (.cells (cellsU [0, 0, 0, 0, 0, 0, 0, 0]) 26 (0, 0))
  bel : Below w.heap.size w w'
theorem RbW.drew {w w' : World} {h : St} (H : RbW w h w') : RbW w h w'.drew := ⟨H.b0, H.b1, below_drew H.bel⟩
theorem RbW.next {w W w1 : World} {h : St} {v : Value} {n : Nat} {xs : List Value} (H : RbW w h W) (ho : W.ownsRow w.heap.size 23 1 v n xs) (hg : W.grownBy w1 v.ownBlock) (hb : Below w.heap.size w w1) : RbW w h w1 :=
  ⟨blk_grown H.b0 hg (own_ne ho H.b0 (by decide)), blk_grown H.b1 hg (own_ne ho H.b1 (by decide)), hb⟩
theorem be_walk2 (b : ByteArray) (k : Nat) : IntKind.u32.wrap (IntKind.u32.wrap (IntKind.u32.wrap (IntKind.u32.wrap (IntKind.u32.wrap (byt b (4 * k)) * 16777216) + IntKind.u32.wrap (IntKind.u32.wrap (byt b (4 * k + 1)) * 65536)) + IntKind.u32.wrap (IntKind.u32.wrap (byt b (4 * k + 2)) * 256)) + IntKind.u32.wrap (byt b (4 * k + 3))) = be b k := by
  have h0 := byt_range b (4 * k); have h1 := byt_range b (4 * k + 1); have h2 := byt_range b (4 * k + 2); have h3 := byt_range b (4 * k + 3)
  simp only [IntKind.wrap_u32]
  unfold be
  omega
theorem next_walk2 (l : List Int) (m : Nat) (X15 X2 X16 X7 : Int) (h15 : X15 = l.getD (m - 15) 0) (h2 : X2 = l.getD (m - 2) 0) (h16 : X16 = l.getD (m - 16) 0) (h7 : X7 = l.getD (m - 7) 0) :
    IntKind.u32.wrap (IntKind.u32.wrap (IntKind.u32.wrap (X16 + bits BinOp.xor IntKind.u32 (bits BinOp.xor IntKind.u32 (rotI X15 7) (rotI X15 18)) (X15 / 8)) + X7) + bits BinOp.xor IntKind.u32 (bits BinOp.xor IntKind.u32 (rotI X2 17) (rotI X2 19)) (X2 / 1024)) = nextW l m := by
  subst h15 h2 h16 h7
  rfl
theorem cell_alloc {w : World} {a : Addr} {v : Value} (h : w.cell? a = some v) (o : Obj) : (w.alloc o).cell? a = some v := pw_cell_below ((Below.refl _ _).alloc (Nat.le_refl _) _) h
theorem run_sl (g n c i : Nat) (h : i < n) (z : Int) (hz : z = i) (w : World) : (Instr.indexAt 104 (.slice (some ⟨g, 0, none⟩) n c) (.int .i64 z)).run Try.prog w = .ok (.pointer (some ⟨g, i, none⟩)) w := by
  subst hz
  rw [run_indexAt_slice w 104 ⟨g, 0, none⟩ n c .i64 i (by kernel_rfl), if_pos ⟨by omega, by omega⟩]
  have hs : (sizeOf (Try.prog.elem 104)).run Try.prog w = .ok 1 w := by kernel_rfl
  rw [hs]
  simp [Result.andThen, add_plain]
theorem mix_walk (h st : St) (b : ByteArray) (e : st = rnds h wordsL (wsOf b) 64) : #[Value.int .u32 ((h.a + st.a) % 4294967296), .int .u32 ((h.b + st.b) % 4294967296), .int .u32 ((h.c + st.c) % 4294967296), .int .u32 ((h.d + st.d) % 4294967296), .int .u32 ((h.e + st.e) % 4294967296), .int .u32 ((h.f + st.f) % 4294967296), .int .u32 ((h.g + st.g) % 4294967296), .int .u32 ((h.h + st.h) % 4294967296)] = cellsU (mixS h b).list := by
  unfold mixS
  rw [← e]
  simp only [cellsU, addSt, St.list, IntKind.wrap_u32, List.map_cons, List.map_nil, Int.add_comm]
theorem info_u32 : (Try.prog.info? 23).map (fun i => (i.zero, i.size, i.bytes)) = some (some (.int .u32 0), 1, 4) := by kernel_rfl

set_option maxHeartbeats 8000000 in
set_option maxRecDepth 100000 in
theorem rblock_yes (h : St) (hU : h.U) (b : ByteArray) (hb : b.size = 64) (w : World) :
    Calls Try.prog 36 #[u32s h.list, .string b] w fun e w' => e = .returned (.tuple #[u32s (mixS h b).list, .int .i64 0]) ∧ Below w.heap.size w w' := by
  have HU := Lib.hid hU
  have HS := Lib.hid hb
  have hne : ((b.size : Int) != 64) = false := by rw [hb]; rfl
  clear hU hb
  show Calls _ _ #[.agg (cellsU h.list), .string b] _ _
  obtain ⟨hv, ehv⟩ : ∃ v, v = cellsU h.list := ⟨_, rfl⟩
  rw [← ehv]
  have EH := Lib.hid ehv
  clear ehv
  go_enter Try.func36, Try.ntmps36
  go_wp2_with fail
  clear hne
  go_loopw [6, 7] (fun v i wr => ∃ k : Nat, k ≤ 16 ∧ i = .int .i64 k ∧ Hid (wr.ownsRow w.heap.size 23 1 v (w16 b k).length (nums .u32 (w16 b k))) ∧ Hid (RbW w h wr)) (fun _ i _ => 16 - (intOf i).toNat)
  case atStart =>
    refine ⟨0, by omega, rfl, Lib.hid (own_nil _ _ _ _), Lib.hid ?_⟩
    have e1 := EH.out
    subst e1
    exact ⟨blk_alloc (new_ _ _ rfl) _, new_ _ _ (by simp), ((Below.refl _ _).alloc (Nat.le_refl _) _).alloc (by simp) _⟩
  case round =>
    obtain ⟨k, hk, rfl, HO, HW⟩ := hrel
    by_cases hlt : k < 16
    · -- BEGIN A
      have hs := HS.out
      have g0 : 4 * k < b.size := by omega
      have g1 : 4 * k + 1 < b.size := by omega
      have g2 : 4 * k + 2 < b.size := by omega
      have g3 : 4 * k + 3 < b.size := by omega
      clear hs
      have q0 : IntKind.i64.wrap (4 * (k : Int)) = 4 * (k : Int) := (i64_w _).trans (Go.IntWalk.wrap64_in _ (by omega))
      have q1 : IntKind.i64.wrap (4 * (k : Int) + 1) = 4 * (k : Int) + 1 := (i64_w _).trans (Go.IntWalk.wrap64_in _ (by omega))
      have q2 : IntKind.i64.wrap (4 * (k : Int) + 2) = 4 * (k : Int) + 2 := (i64_w _).trans (Go.IntWalk.wrap64_in _ (by omega))
      have q3 : IntKind.i64.wrap (4 * (k : Int) + 3) = 4 * (k : Int) + 3 := (i64_w _).trans (Go.IntWalk.wrap64_in _ (by omega))
      have r0 := fun w => run_byt b (4 * k) g0 (4 * (k : Int)) (by omega) w
      have r1 := fun w => run_byt b (4 * k + 1) g1 (4 * (k : Int) + 1) (by omega) w
      have r2 := fun w => run_byt b (4 * k + 2) g2 (4 * (k : Int) + 2) (by omega) w
      have r3 := fun w => run_byt b (4 * k + 3) g3 (4 * (k : Int) + 3) (by omega) w
      clear g0 g1 g2 g3
      go_wp2_with fail
      have HO2 := Lib.hid (show wr.drew.ownsRow _ _ _ _ _ _ from HO.out)
      have HW2 := Lib.hid HW.out.drew
      have HL := Lib.hid (w16_length b k)
      clear HO HW
      refine start_ (n := 33) (S := fun w' : World => True) (ds := []) #[false, false, false, false, false, false, false, false, false, false, false, false, false, false, false, false, false, false, false, false, false, false, false, false, false, false, false, false, false, false, false, false, false] (by kernel_rfl) rfl rfl trivial (fun hHeld => ?_)
      generalize wr.drew = w2 at HO2 HW2 ⊢
      refine pure_ (i := 0) (N := some 36) (v := ?_) (a' := ?_) #[true, false, false, false, false, false, false, false, false, false, false, false, false, false, false, false, false, false, false, false, false, false, false, false, false, false, false, false, false, false, false, false, false] rfl rfl (by kernel_rfl) (fun _ _ _ h => h) (Or.inl ⟨by rfl, ?_⟩) ?_ ?_
      rotate_left
      · intro w'
        go_simp
        with_reducible rfl
      rotate_left
      · simp only [Act.put, List.setIfInBounds_toArray, List.set_cons_zero, List.set_cons_succ, i64_w, i32_w]
        rfl
      refine pure_ (i := 1) (N := some 37) (v := ?_) (a' := ?_) #[true, true, false, false, false, false, false, false, false, false, false, false, false, false, false, false, false, false, false, false, false, false, false, false, false, false, false, false, false, false, false, false, false] rfl rfl (by kernel_rfl) (fun _ _ _ h => h) (Or.inl ⟨by rfl, ?_⟩) ?_ ?_
      rotate_left
      · intro w'
        go_simp
        with_reducible rfl
      rotate_left
      · simp only [Act.put, List.setIfInBounds_toArray, List.set_cons_zero, List.set_cons_succ, i64_w, i32_w]
        rfl
      refine pure_ (i := 2) (N := some 38) (v := ?_) (a' := ?_) #[true, true, true, false, false, false, false, false, false, false, false, false, false, false, false, false, false, false, false, false, false, false, false, false, false, false, false, false, false, false, false, false, false] rfl rfl (by kernel_rfl) (fun _ _ _ h => h) (Or.inl ⟨by rfl, ?_⟩) ?_ ?_
      rotate_left
      · intro w'
        go_simp
        with_reducible rfl
      rotate_left
      · simp only [Act.put, List.setIfInBounds_toArray, List.set_cons_zero, List.set_cons_succ, i64_w, i32_w]
        rfl
      refine pure_ (i := 3) (N := some 39) (v := ?_) (a' := ?_) #[true, true, true, true, false, false, false, false, false, false, false, false, false, false, false, false, false, false, false, false, false, false, false, false, false, false, false, false, false, false, false, false, false] rfl rfl (by kernel_rfl) (fun _ _ _ h => h) (Or.inl ⟨by rfl, ?_⟩) ?_ ?_
      rotate_left
      · intro w'
        go_simp
        with_reducible rfl
      rotate_left
      · simp only [Act.put, List.setIfInBounds_toArray, List.set_cons_zero, List.set_cons_succ, i64_w, i32_w]
        rfl
      refine pure_ (i := 4) (N := some 40) (v := ?_) (a' := ?_) #[true, true, true, true, true, false, false, false, false, false, false, false, false, false, false, false, false, false, false, false, false, false, false, false, false, false, false, false, false, false, false, false, false] rfl rfl (by kernel_rfl) (fun _ _ _ h => h) (Or.inl ⟨by rfl, ?_⟩) ?_ ?_
      rotate_left
      · intro w'
        go_simp
        with_reducible rfl
      rotate_left
      · simp only [Act.put, List.setIfInBounds_toArray, List.set_cons_zero, List.set_cons_succ, i64_w, i32_w]
        rfl
      refine pure_ (i := 5) (N := some 41) (v := ?_) (a' := ?_) #[true, true, true, true, true, true, false, false, false, false, false, false, false, false, false, false, false, false, false, false, false, false, false, false, false, false, false, false, false, false, false, false, false] rfl rfl (by kernel_rfl) (fun _ _ _ h => h) (Or.inl ⟨by rfl, ?_⟩) ?_ ?_
      rotate_left
      · intro w'
        go_simp
        with_reducible rfl
      rotate_left
      · simp only [Act.put, List.setIfInBounds_toArray, List.set_cons_zero, List.set_cons_succ, i64_w, i32_w]
        rfl
      refine pure_ (i := 6) (N := some 42) (v := ?_) (a' := ?_) #[true, true, true, true, true, true, true, false, false, false, false, false, false, false, false, false, false, false, false, false, false, false, false, false, false, false, false, false, false, false, false, false, false] rfl rfl (by kernel_rfl) (fun _ _ _ h => h) (Or.inl ⟨by rfl, ?_⟩) ?_ ?_
      rotate_left
      · intro w'
        go_simp
        with_reducible rfl
      rotate_left
      · simp only [Act.put, List.setIfInBounds_toArray, List.set_cons_zero, List.set_cons_succ, i64_w, i32_w]
        rfl
      refine pure_ (i := 7) (N := some 43) (v := ?_) (a' := ?_) #[true, true, true, true, true, true, true, true, false, false, false, false, false, false, false, false, false, false, false, false, false, false, false, false, false, false, false, false, false, false, false, false, false] rfl rfl (by kernel_rfl) (fun _ _ _ h => h) (Or.inl ⟨by rfl, ?_⟩) ?_ ?_
      rotate_left
      · intro w'
        go_simp
        with_reducible rfl
      rotate_left
      · simp only [Act.put, List.setIfInBounds_toArray, List.set_cons_zero, List.set_cons_succ, i64_w, i32_w]
        rfl
      refine pure_ (i := 8) (N := some 44) (v := ?_) (a' := ?_) #[true, true, true, true, true, true, true, true, true, false, false, false, false, false, false, false, false, false, false, false, false, false, false, false, false, false, false, false, false, false, false, false, false] rfl rfl (by kernel_rfl) (fun _ _ _ h => h) (Or.inl ⟨by rfl, ?_⟩) ?_ ?_
      rotate_left
      · intro w'
        go_simp
        with_reducible rfl
      rotate_left
      · simp only [Act.put, List.setIfInBounds_toArray, List.set_cons_zero, List.set_cons_succ, i64_w, i32_w]
        rfl
      refine pure_ (i := 9) (N := some 45) (v := ?_) (a' := ?_) #[true, true, true, true, true, true, true, true, true, true, false, false, false, false, false, false, false, false, false, false, false, false, false, false, false, false, false, false, false, false, false, false, false] rfl rfl (by kernel_rfl) (fun _ _ _ h => h) (Or.inl ⟨by rfl, ?_⟩) ?_ ?_
      rotate_left
      · intro w'
        go_simp
        with_reducible rfl
      rotate_left
      · simp only [Act.put, List.setIfInBounds_toArray, List.set_cons_zero, List.set_cons_succ, i64_w, i32_w]
        rfl
      refine pure_ (i := 10) (N := some 46) (v := ?_) (a' := ?_) #[true, true, true, true, true, true, true, true, true, true, true, false, false, false, false, false, false, false, false, false, false, false, false, false, false, false, false, false, false, false, false, false, false] rfl rfl (by kernel_rfl) (fun _ _ _ h => h) (Or.inl ⟨by rfl, ?_⟩) ?_ ?_
      rotate_left
      · intro w'
        go_simp
        with_reducible rfl
      rotate_left
      · simp only [Act.put, List.setIfInBounds_toArray, List.set_cons_zero, List.set_cons_succ, i64_w, i32_w]
        rfl
      refine pure_ (i := 11) (N := some 47) (v := ?_) (a' := ?_) #[true, true, true, true, true, true, true, true, true, true, true, true, false, false, false, false, false, false, false, false, false, false, false, false, false, false, false, false, false, false, false, false, false] rfl rfl (by kernel_rfl) (fun _ _ _ h => h) (Or.inl ⟨by rfl, ?_⟩) ?_ ?_
      rotate_left
      · intro w'
        go_simp
        with_reducible rfl
      rotate_left
      · simp only [Act.put, List.setIfInBounds_toArray, List.set_cons_zero, List.set_cons_succ, i64_w, i32_w]
        rfl
      refine pure_ (i := 12) (N := some 48) (v := ?_) (a' := ?_) #[true, true, true, true, true, true, true, true, true, true, true, true, true, false, false, false, false, false, false, false, false, false, false, false, false, false, false, false, false, false, false, false, false] rfl rfl (by kernel_rfl) (fun _ _ _ h => h) (Or.inl ⟨by rfl, ?_⟩) ?_ ?_
      rotate_left
      · intro w'
        go_simp
        with_reducible rfl
      rotate_left
      · simp only [Act.put, List.setIfInBounds_toArray, List.set_cons_zero, List.set_cons_succ, i64_w, i32_w]
        rfl
      refine pure_ (i := 13) (N := some 49) (v := ?_) (a' := ?_) #[true, true, true, true, true, true, true, true, true, true, true, true, true, true, false, false, false, false, false, false, false, false, false, false, false, false, false, false, false, false, false, false, false] rfl rfl (by kernel_rfl) (fun _ _ _ h => h) (Or.inl ⟨by rfl, ?_⟩) ?_ ?_
      rotate_left
      · intro w'
        go_simp
        with_reducible rfl
      rotate_left
      · simp only [Act.put, List.setIfInBounds_toArray, List.set_cons_zero, List.set_cons_succ, i64_w, i32_w]
        rfl
      refine pure_ (i := 14) (N := some 50) (v := ?_) (a' := ?_) #[true, true, true, true, true, true, true, true, true, true, true, true, true, true, true, false, false, false, false, false, false, false, false, false, false, false, false, false, false, false, false, false, false] rfl rfl (by kernel_rfl) (fun _ _ _ h => h) (Or.inl ⟨by rfl, ?_⟩) ?_ ?_
      rotate_left
      · intro w'
        go_simp
        with_reducible rfl
      rotate_left
      · simp only [Act.put, List.setIfInBounds_toArray, List.set_cons_zero, List.set_cons_succ, i64_w, i32_w]
        rfl
      refine pure_ (i := 15) (N := some 51) (v := ?_) (a' := ?_) #[true, true, true, true, true, true, true, true, true, true, true, true, true, true, true, true, false, false, false, false, false, false, false, false, false, false, false, false, false, false, false, false, false] rfl rfl (by kernel_rfl) (fun _ _ _ h => h) (Or.inl ⟨by rfl, ?_⟩) ?_ ?_
      rotate_left
      · intro w'
        go_simp
        with_reducible rfl
      rotate_left
      · simp only [Act.put, List.setIfInBounds_toArray, List.set_cons_zero, List.set_cons_succ, i64_w, i32_w]
        rfl
      refine pure_ (i := 16) (N := some 52) (v := ?_) (a' := ?_) #[true, true, true, true, true, true, true, true, true, true, true, true, true, true, true, true, true, false, false, false, false, false, false, false, false, false, false, false, false, false, false, false, false] rfl rfl (by kernel_rfl) (fun _ _ _ h => h) (Or.inl ⟨by rfl, ?_⟩) ?_ ?_
      rotate_left
      · intro w'
        go_simp
        with_reducible rfl
      rotate_left
      · simp only [Act.put, List.setIfInBounds_toArray, List.set_cons_zero, List.set_cons_succ, i64_w, i32_w]
        rfl
      refine pure_ (i := 17) (N := some 53) (v := ?_) (a' := ?_) #[true, true, true, true, true, true, true, true, true, true, true, true, true, true, true, true, true, true, false, false, false, false, false, false, false, false, false, false, false, false, false, false, false] rfl rfl (by kernel_rfl) (fun _ _ _ h => h) (Or.inl ⟨by rfl, ?_⟩) ?_ ?_
      rotate_left
      · intro w'
        go_simp
        with_reducible rfl
      rotate_left
      · simp only [Act.put, List.setIfInBounds_toArray, List.set_cons_zero, List.set_cons_succ, i64_w, i32_w]
        rfl
      refine pure_ (i := 18) (N := some 54) (v := ?_) (a' := ?_) #[true, true, true, true, true, true, true, true, true, true, true, true, true, true, true, true, true, true, true, false, false, false, false, false, false, false, false, false, false, false, false, false, false] rfl rfl (by kernel_rfl) (fun _ _ _ h => h) (Or.inl ⟨by rfl, ?_⟩) ?_ ?_
      rotate_left
      · intro w'
        go_simp
        with_reducible rfl
      rotate_left
      · simp only [Act.put, List.setIfInBounds_toArray, List.set_cons_zero, List.set_cons_succ, i64_w, i32_w]
        rfl
      refine pure_ (i := 19) (N := some 55) (v := ?_) (a' := ?_) #[true, true, true, true, true, true, true, true, true, true, true, true, true, true, true, true, true, true, true, true, false, false, false, false, false, false, false, false, false, false, false, false, false] rfl rfl (by kernel_rfl) (fun _ _ _ h => h) (Or.inl ⟨by rfl, ?_⟩) ?_ ?_
      rotate_left
      · intro w'
        go_simp
        with_reducible rfl
      rotate_left
      · simp only [Act.put, List.setIfInBounds_toArray, List.set_cons_zero, List.set_cons_succ, i64_w, i32_w]
        rfl
      refine pure_ (i := 20) (N := some 56) (v := ?_) (a' := ?_) #[true, true, true, true, true, true, true, true, true, true, true, true, true, true, true, true, true, true, true, true, true, false, false, false, false, false, false, false, false, false, false, false, false] rfl rfl (by kernel_rfl) (fun _ _ _ h => h) (Or.inl ⟨by rfl, ?_⟩) ?_ ?_
      rotate_left
      · intro w'
        go_simp
        with_reducible rfl
      rotate_left
      · simp only [Act.put, List.setIfInBounds_toArray, List.set_cons_zero, List.set_cons_succ, i64_w, i32_w]
        rfl
      refine pure_ (i := 21) (N := some 57) (v := ?_) (a' := ?_) #[true, true, true, true, true, true, true, true, true, true, true, true, true, true, true, true, true, true, true, true, true, true, false, false, false, false, false, false, false, false, false, false, false] rfl rfl (by kernel_rfl) (fun _ _ _ h => h) (Or.inl ⟨by rfl, ?_⟩) ?_ ?_
      rotate_left
      · intro w'
        go_simp
        with_reducible rfl
      rotate_left
      · simp only [Act.put, List.setIfInBounds_toArray, List.set_cons_zero, List.set_cons_succ, i64_w, i32_w]
        rfl
      refine pure_ (i := 22) (N := some 58) (v := ?_) (a' := ?_) #[true, true, true, true, true, true, true, true, true, true, true, true, true, true, true, true, true, true, true, true, true, true, true, false, false, false, false, false, false, false, false, false, false] rfl rfl (by kernel_rfl) (fun _ _ _ h => h) (Or.inl ⟨by rfl, ?_⟩) ?_ ?_
      rotate_left
      · intro w'
        go_simp
        with_reducible rfl
      rotate_left
      · simp only [Act.put, List.setIfInBounds_toArray, List.set_cons_zero, List.set_cons_succ, i64_w, i32_w]
        rfl
      refine pure_ (i := 23) (N := some 59) (v := ?_) (a' := ?_) #[true, true, true, true, true, true, true, true, true, true, true, true, true, true, true, true, true, true, true, true, true, true, true, true, false, false, false, false, false, false, false, false, false] rfl rfl (by kernel_rfl) (fun _ _ _ h => h) (Or.inl ⟨by rfl, ?_⟩) ?_ ?_
      rotate_left
      · intro w'
        go_simp
        with_reducible rfl
      rotate_left
      · simp only [Act.put, List.setIfInBounds_toArray, List.set_cons_zero, List.set_cons_succ, i64_w, i32_w]
        rfl
      refine pure_ (i := 24) (N := some 60) (v := ?_) (a' := ?_) #[true, true, true, true, true, true, true, true, true, true, true, true, true, true, true, true, true, true, true, true, true, true, true, true, true, false, false, false, false, false, false, false, false] rfl rfl (by kernel_rfl) (fun _ _ _ h => h) (Or.inl ⟨by rfl, ?_⟩) ?_ ?_
      rotate_left
      · intro w'
        go_simp
        with_reducible rfl
      rotate_left
      · simp only [Act.put, List.setIfInBounds_toArray, List.set_cons_zero, List.set_cons_succ, i64_w, i32_w]
        rfl
      refine pure_ (i := 25) (N := some 61) (v := ?_) (a' := ?_) #[true, true, true, true, true, true, true, true, true, true, true, true, true, true, true, true, true, true, true, true, true, true, true, true, true, true, false, false, false, false, false, false, false] rfl rfl (by kernel_rfl) (fun _ _ _ h => h) (Or.inl ⟨by rfl, ?_⟩) ?_ ?_
      rotate_left
      · intro w'
        go_simp
        with_reducible rfl
      rotate_left
      · simp only [Act.put, List.setIfInBounds_toArray, List.set_cons_zero, List.set_cons_succ, i64_w, i32_w]
        rfl
      refine pure_ (i := 26) (N := some 62) (v := ?_) (a' := ?_) #[true, true, true, true, true, true, true, true, true, true, true, true, true, true, true, true, true, true, true, true, true, true, true, true, true, true, true, false, false, false, false, false, false] rfl rfl (by kernel_rfl) (fun _ _ _ h => h) (Or.inl ⟨by rfl, ?_⟩) ?_ ?_
      rotate_left
      · intro w'
        go_simp
        with_reducible rfl
      rotate_left
      · simp only [Act.put, List.setIfInBounds_toArray, List.set_cons_zero, List.set_cons_succ, i64_w, i32_w]
        rfl
      refine pure_ (i := 27) (N := some 63) (v := ?_) (a' := ?_) #[true, true, true, true, true, true, true, true, true, true, true, true, true, true, true, true, true, true, true, true, true, true, true, true, true, true, true, true, false, false, false, false, false] rfl rfl (by kernel_rfl) (fun _ _ _ h => h) (Or.inl ⟨by rfl, ?_⟩) ?_ ?_
      rotate_left
      · intro w'
        go_simp
        with_reducible rfl
      rotate_left
      · simp only [Act.put, List.setIfInBounds_toArray, List.set_cons_zero, List.set_cons_succ, i64_w, i32_w]
        rfl
      refine pure_ (i := 28) (N := some 64) (v := ?_) (a' := ?_) #[true, true, true, true, true, true, true, true, true, true, true, true, true, true, true, true, true, true, true, true, true, true, true, true, true, true, true, true, true, false, false, false, false] rfl rfl (by kernel_rfl) (fun _ _ _ h => h) (Or.inl ⟨by rfl, ?_⟩) ?_ ?_
      rotate_left
      · intro w'
        go_simp
        with_reducible rfl
      rotate_left
      · simp only [Act.put, List.setIfInBounds_toArray, List.set_cons_zero, List.set_cons_succ, i64_w, i32_w]
        rfl
      refine pure_ (i := 29) (N := some 65) (v := ?_) (a' := ?_) #[true, true, true, true, true, true, true, true, true, true, true, true, true, true, true, true, true, true, true, true, true, true, true, true, true, true, true, true, true, true, false, false, false] rfl rfl (by kernel_rfl) (fun _ _ _ h => h) (Or.inl ⟨by rfl, ?_⟩) ?_ ?_
      rotate_left
      · intro w'
        go_simp
        with_reducible rfl
      rotate_left
      · simp only [Act.put, List.setIfInBounds_toArray, List.set_cons_zero, List.set_cons_succ, i64_w, i32_w]
        rfl
      refine one_ (i := 30) (N := some 66) #[true, true, true, true, true, true, true, true, true, true, true, true, true, true, true, true, true, true, true, true, true, true, true, true, true, true, true, true, true, true, true, false, false] rfl rfl (by kernel_rfl) (by decide) (fun K hK => ?_)
      refine value_ (v := ?_) (w1 := ?_) (by rfl) rfl ?_ ?_
      rotate_left
      rotate_left
      · go_simp
        first | rfl | (constructor <;> rfl)
      refine hK.out _ _ trivial (fun hHeld => ?_)
      clear hK K
      refine norm_ (a' := ?_) ?_ ?_
      rotate_left
      · show Act.put _ (some 66) _ = _
        simp only [Act.put, List.setIfInBounds_toArray, List.set_cons_zero, List.set_cons_succ, i64_w, i32_w]
        rfl
      refine one_ (i := 31) (N := some 67) #[true, true, true, true, true, true, true, true, true, true, true, true, true, true, true, true, true, true, true, true, true, true, true, true, true, true, true, true, true, true, true, true, false] rfl rfl (by kernel_rfl) (by decide) (fun K hK => ?_)
      refine num_append_step (w0 := w) w.heap.size (by rfl) (.tmp 36) (.tmp 66) 104 23 .u32 4 rfl Try.underlying104 info_u32 (by decide) _ (w16 b k) _ rfl rfl HO2.out HW2.out.bel HW2.out.bel.size (by rw [HL.out]; omega) ?_
      intro v1 w3 hown hbel hg
      have HO3 := Lib.hid hown
      have HW3 := Lib.hid (HW2.out.next HO2.out hg hbel)
      clear hown hbel hg HO2 HW2
      refine hK.out _ _ trivial (fun hHeld => ?_)
      clear hK K
      refine norm_ (a' := ?_) ?_ ?_
      rotate_left
      · show Act.put _ (some 67) _ = _
        simp only [Act.put, List.setIfInBounds_toArray, List.set_cons_zero, List.set_cons_succ, i64_w, i32_w]
        rfl
      refine pure_ (i := 32) (N := some 6) (v := ?_) (a' := ?_) #[true, true, true, true, true, true, true, true, true, true, true, true, true, true, true, true, true, true, true, true, true, true, true, true, true, true, true, true, true, true, true, true, true] rfl rfl (by kernel_rfl) (fun _ _ _ h => h) (Or.inl ⟨by rfl, ?_⟩) ?_ ?_
      rotate_left
      · intro w'
        go_simp
        with_reducible rfl
      rotate_left
      · simp only [Act.put, List.setIfInBounds_toArray, List.set_cons_zero, List.set_cons_succ, i64_w, i32_w]
        rfl
      refine done_ (by kernel_rfl) ?_
      rw [be_walk2, ← w16_succ] at HO3
      go_wp2_with fail
      go_roundw
      case rel => exact ⟨k + 1, by omega, by go_num, HO3, HW3⟩
      case measure => simp [intOf]; omega
      -- END A
    · obtain rfl : k = 16 := by omega
      clear hlt hk
      obtain ⟨w1, rfl⟩ : ∃ w1 : World, w1 = wr := ⟨_, rfl⟩
      go_wp2_with fail
      go_loopw [6, 8] (fun v i wr => ∃ m : Nat, 16 ≤ m ∧ m ≤ 64 ∧ i = .int .i64 m ∧ Hid (wr.ownsRow w.heap.size 23 1 v (sched (w16 b 16) (m - 16)).length (nums .u32 (sched (w16 b 16) (m - 16)))) ∧ Hid (RbW w h wr)) (fun _ i _ => 64 - (intOf i).toNat)
      case atStart => exact ⟨16, by omega, by omega, rfl, HO, HW⟩
      case round =>
        clear HO HW
        obtain ⟨m, hm1, hm2, rfl, HO, HW⟩ := hrel
        have hlen : (sched (w16 b 16) (m - 16)).length = m := by rw [sched_length, w16_length]; omega
        have hU : ∀ x ∈ sched (w16 b 16) (m - 16), U x := sched_U (w16_U b 16) _
        obtain ⟨g, cap, hv, hgb, hgl⟩ := HO.out.form (by omega)
        rw [hv, hlen] at HO
        rw [hv]
        rw [hlen]
        have HL := Lib.hid hlen
        by_cases hlt : m < 64
        · -- BEGIN B
          have cc : ∀ j, j < m → wr.cell? ⟨g, j, none⟩ = some (.int .u32 ((sched (w16 b 16) (m - 16)).getD j 0)) := fun j hj => by
            have := (own_at HO.out (j : Int) (by omega) (by omega)).1
            simpa [rd] using this
          obtain ⟨X15, e15⟩ : ∃ X, X = (sched (w16 b 16) (m - 16)).getD (m - 15) 0 := ⟨_, rfl⟩
          obtain ⟨X2, e2⟩ : ∃ X, X = (sched (w16 b 16) (m - 16)).getD (m - 2) 0 := ⟨_, rfl⟩
          obtain ⟨X16, e16⟩ : ∃ X, X = (sched (w16 b 16) (m - 16)).getD (m - 16) 0 := ⟨_, rfl⟩
          obtain ⟨X7, e7⟩ : ∃ X, X = (sched (w16 b 16) (m - 16)).getD (m - 7) 0 := ⟨_, rfl⟩
          have c15 := cc (m - 15) (by omega)
          have c2 := cc (m - 2) (by omega)
          have c16 := cc (m - 16) (by omega)
          have c7 := cc (m - 7) (by omega)
          rw [← e15] at c15
          rw [← e2] at c2
          rw [← e16] at c16
          rw [← e7] at c7
          have u15 : U X15 := by rw [e15]; exact getD_U hU _
          have u2 : U X2 := by rw [e2]; exact getD_U hU _
          have E15 := Lib.hid e15
          have E2 := Lib.hid e2
          have E16 := Lib.hid e16
          have E7 := Lib.hid e7
          clear e15 e2 e16 e7 cc hlen hU hv
          have q16 : IntKind.i64.wrap ((m : Int) - 16) = (m : Int) - 16 := (i64_w _).trans (Go.IntWalk.wrap64_in _ (by omega))
          have q7 : IntKind.i64.wrap ((m : Int) - 7) = (m : Int) - 7 := (i64_w _).trans (Go.IntWalk.wrap64_in _ (by omega))
          have r15 := fun w' => run_sl g m cap (m - 15) (by omega) ((m : Int) - 15) (by omega) w'
          have r2 := fun w' => run_sl g m cap (m - 2) (by omega) ((m : Int) - 2) (by omega) w'
          have r16 := fun w' => run_sl g m cap (m - 16) (by omega) ((m : Int) - 16) (by omega) w'
          have r7 := fun w' => run_sl g m cap (m - 7) (by omega) ((m : Int) - 7) (by omega) w'
          go_wp2_with (first | (go_at_call 72; refine (rturn_c _ _ (by assumption) (by decide) (by decide) _).mono ?_; rintro e w4 ⟨rfl, rfl⟩) | (go_at_call 73; refine (rover_c _ _ (by assumption) (by decide) (by decide) _).mono ?_; rintro e w4 ⟨rfl, rfl⟩))
          clear c15 c2 r15 r2 u15 u2
          refine start_ (n := 19) (S := fun w' : World => w'.cell? ⟨g, m - 16, none⟩ = some (.int .u32 X16) ∧ w'.cell? ⟨g, m - 7, none⟩ = some (.int .u32 X7)) (ds := [17]) #[false, false, false, false, false, false, false, false, false, false, false, false, false, false, false, false, false, false, false] (by kernel_rfl) rfl rfl ⟨c16, c7⟩ (fun hHeld => ?_)
          have HO2 := Lib.hid (show wr.drew.ownsRow _ _ _ _ _ _ from HO.out)
          have HW2 := Lib.hid HW.out.drew
          have b16 : wr.drew.cell? ⟨g, m - 16, none⟩ = some (.int .u32 X16) := c16
          have b7 : wr.drew.cell? ⟨g, m - 7, none⟩ = some (.int .u32 X7) := c7
          clear HO HW c16 c7
          generalize wr.drew = w2 at HO2 HW2 hHeld b16 b7 ⊢
          refine pure_ (i := 0) (N := some 98) (v := ?_) (a' := ?_) #[true, false, false, false, false, false, false, false, false, false, false, false, false, false, false, false, false, false, false] rfl rfl (by kernel_rfl) (fun _ _ _ h => h) (Or.inl ⟨by rfl, ?_⟩) ?_ ?_
          rotate_left
          · intro w'
            go_simp
            with_reducible rfl
          rotate_left
          · simp only [Act.put, List.setIfInBounds_toArray, List.set_cons_zero, List.set_cons_succ, i64_w, i32_w]
            rfl
          refine pure_ (i := 1) (N := some 99) (v := ?_) (a' := ?_) #[true, true, false, false, false, false, false, false, false, false, false, false, false, false, false, false, false, false, false] rfl rfl (by kernel_rfl) (fun _ _ _ h => h) (Or.inl ⟨by rfl, ?_⟩) ?_ ?_
          rotate_left
          · intro w'
            go_simp
            with_reducible rfl
          rotate_left
          · simp only [Act.put, List.setIfInBounds_toArray, List.set_cons_zero, List.set_cons_succ, i64_w, i32_w]
            rfl
          refine pure_ (i := 2) (N := some 100) (v := ?_) (a' := ?_) #[true, true, true, false, false, false, false, false, false, false, false, false, false, false, false, false, false, false, false] rfl rfl (by kernel_rfl) (fun _ _ _ h => h) (Or.inl ⟨by rfl, ?_⟩) ?_ ?_
          rotate_left
          · intro w'
            go_simp
            with_reducible rfl
          rotate_left
          · simp only [Act.put, List.setIfInBounds_toArray, List.set_cons_zero, List.set_cons_succ, i64_w, i32_w]
            rfl
          refine pure_ (i := 3) (N := some 101) (v := ?_) (a' := ?_) #[true, true, true, true, false, false, false, false, false, false, false, false, false, false, false, false, false, false, false] rfl rfl (by kernel_rfl) (fun _ _ _ h => h) (Or.inl ⟨by rfl, ?_⟩) ?_ ?_
          rotate_left
          · intro w'
            go_simp
            with_reducible rfl
          rotate_left
          · simp only [Act.put, List.setIfInBounds_toArray, List.set_cons_zero, List.set_cons_succ, i64_w, i32_w]
            rfl
          refine pure_ (i := 4) (N := some 102) (v := ?_) (a' := ?_) #[true, true, true, true, true, false, false, false, false, false, false, false, false, false, false, false, false, false, false] rfl rfl (by kernel_rfl) (fun _ _ _ h => h) (Or.inl ⟨by rfl, ?_⟩) ?_ ?_
          rotate_left
          · intro w'
            go_simp
            with_reducible rfl
          rotate_left
          · simp only [Act.put, List.setIfInBounds_toArray, List.set_cons_zero, List.set_cons_succ, i64_w, i32_w]
            rfl
          refine take_ (i := 5) (N := some 103) (v := ?_) (a' := ?_) #[true, true, true, true, true, true, false, false, false, false, false, false, false, false, false, false, false, false, false] rfl rfl (by kernel_rfl) (fun _ _ _ h => h) (Or.inl ⟨by rfl, ?_⟩) hHeld ?_ ?_
          rotate_left
          · rintro w' ⟨s0, s1⟩
            go_simp
            with_reducible rfl
          rotate_left
          · simp only [Act.put, List.setIfInBounds_toArray, List.set_cons_zero, List.set_cons_succ, i64_w, i32_w]
            rfl
          refine pure_ (i := 6) (N := some 104) (v := ?_) (a' := ?_) #[true, true, true, true, true, true, true, false, false, false, false, false, false, false, false, false, false, false, false] rfl rfl (by kernel_rfl) (fun _ _ _ h => h) (Or.inl ⟨by rfl, ?_⟩) ?_ ?_
          rotate_left
          · intro w'
            go_simp
            with_reducible rfl
          rotate_left
          · simp only [Act.put, List.setIfInBounds_toArray, List.set_cons_zero, List.set_cons_succ, i64_w, i32_w]
            rfl
          refine pure_ (i := 7) (N := some 105) (v := ?_) (a' := ?_) #[true, true, true, true, true, true, true, true, false, false, false, false, false, false, false, false, false, false, false] rfl rfl (by kernel_rfl) (fun _ _ _ h => h) (Or.inl ⟨by rfl, ?_⟩) ?_ ?_
          rotate_left
          · intro w'
            go_simp
            with_reducible rfl
          rotate_left
          · simp only [Act.put, List.setIfInBounds_toArray, List.set_cons_zero, List.set_cons_succ, i64_w, i32_w]
            rfl
          refine pure_ (i := 8) (N := some 106) (v := ?_) (a' := ?_) #[true, true, true, true, true, true, true, true, true, false, false, false, false, false, false, false, false, false, false] rfl rfl (by kernel_rfl) (fun _ _ _ h => h) (Or.inl ⟨by rfl, ?_⟩) ?_ ?_
          rotate_left
          · intro w'
            go_simp
            with_reducible rfl
          rotate_left
          · simp only [Act.put, List.setIfInBounds_toArray, List.set_cons_zero, List.set_cons_succ, i64_w, i32_w]
            rfl
          refine pure_ (i := 9) (N := some 107) (v := ?_) (a' := ?_) #[true, true, true, true, true, true, true, true, true, true, false, false, false, false, false, false, false, false, false] rfl rfl (by kernel_rfl) (fun _ _ _ h => h) (Or.inl ⟨by rfl, ?_⟩) ?_ ?_
          rotate_left
          · intro w'
            go_simp
            with_reducible rfl
          rotate_left
          · simp only [Act.put, List.setIfInBounds_toArray, List.set_cons_zero, List.set_cons_succ, i64_w, i32_w]
            rfl
          refine pure_ (i := 10) (N := some 108) (v := ?_) (a' := ?_) #[true, true, true, true, true, true, true, true, true, true, true, false, false, false, false, false, false, false, false] rfl rfl (by kernel_rfl) (fun _ _ _ h => h) (Or.inl ⟨by rfl, ?_⟩) ?_ ?_
          rotate_left
          · intro w'
            go_simp
            with_reducible rfl
          rotate_left
          · simp only [Act.put, List.setIfInBounds_toArray, List.set_cons_zero, List.set_cons_succ, i64_w, i32_w]
            rfl
          refine pure_ (i := 11) (N := some 109) (v := ?_) (a' := ?_) #[true, true, true, true, true, true, true, true, true, true, true, true, false, false, false, false, false, false, false] rfl rfl (by kernel_rfl) (fun _ _ _ h => h) (Or.inl ⟨by rfl, ?_⟩) ?_ ?_
          rotate_left
          · intro w'
            go_simp
            with_reducible rfl
          rotate_left
          · simp only [Act.put, List.setIfInBounds_toArray, List.set_cons_zero, List.set_cons_succ, i64_w, i32_w]
            rfl
          refine take_ (i := 12) (N := some 110) (v := ?_) (a' := ?_) #[true, true, true, true, true, true, true, true, true, true, true, true, true, false, false, false, false, false, false] rfl rfl (by kernel_rfl) (fun _ _ _ h => h) (Or.inl ⟨by rfl, ?_⟩) hHeld ?_ ?_
          rotate_left
          · rintro w' ⟨s0, s1⟩
            go_simp
            with_reducible rfl
          rotate_left
          · simp only [Act.put, List.setIfInBounds_toArray, List.set_cons_zero, List.set_cons_succ, i64_w, i32_w]
            rfl
          refine pure_ (i := 13) (N := some 111) (v := ?_) (a' := ?_) #[true, true, true, true, true, true, true, true, true, true, true, true, true, true, false, false, false, false, false] rfl rfl (by kernel_rfl) (fun _ _ _ h => h) (Or.inl ⟨by rfl, ?_⟩) ?_ ?_
          rotate_left
          · intro w'
            go_simp
            with_reducible rfl
          rotate_left
          · simp only [Act.put, List.setIfInBounds_toArray, List.set_cons_zero, List.set_cons_succ, i64_w, i32_w]
            rfl
          refine pure_ (i := 14) (N := some 112) (v := ?_) (a' := ?_) #[true, true, true, true, true, true, true, true, true, true, true, true, true, true, true, false, false, false, false] rfl rfl (by kernel_rfl) (fun _ _ _ h => h) (Or.inl ⟨by rfl, ?_⟩) ?_ ?_
          rotate_left
          · intro w'
            go_simp
            with_reducible rfl
          rotate_left
          · simp only [Act.put, List.setIfInBounds_toArray, List.set_cons_zero, List.set_cons_succ, i64_w, i32_w]
            rfl
          refine pure_ (i := 15) (N := some 113) (v := ?_) (a' := ?_) #[true, true, true, true, true, true, true, true, true, true, true, true, true, true, true, true, false, false, false] rfl rfl (by kernel_rfl) (fun _ _ _ h => h) (Or.inl ⟨by rfl, ?_⟩) ?_ ?_
          rotate_left
          · intro w'
            go_simp
            with_reducible rfl
          rotate_left
          · simp only [Act.put, List.setIfInBounds_toArray, List.set_cons_zero, List.set_cons_succ, i64_w, i32_w]
            rfl
          refine one_ (i := 16) (N := some 114) #[true, true, true, true, true, true, true, true, true, true, true, true, true, true, true, true, true, false, false] rfl rfl (by kernel_rfl) (by decide) (fun K hK => ?_)
          refine value_ (v := ?_) (w1 := ?_) (by rfl) rfl ?_ ?_
          rotate_left
          rotate_left
          · go_simp
            first | rfl | (constructor <;> rfl)
          refine hK.out _ _ ⟨cell_alloc b16 _, cell_alloc b7 _⟩ (fun hHeld => ?_)
          clear hK K
          refine norm_ (a' := ?_) ?_ ?_
          rotate_left
          · show Act.put _ (some 114) _ = _
            simp only [Act.put, List.setIfInBounds_toArray, List.set_cons_zero, List.set_cons_succ, i64_w, i32_w]
            rfl
          refine last_ (i := 17) (N := some 115) #[true, true, true, true, true, true, true, true, true, true, true, true, true, true, true, true, true, true, false] rfl rfl (by kernel_rfl) (by decide) (fun K hK => ?_)
          refine num_append_step (w0 := w) w.heap.size (by rfl) (.tmp 98) (.tmp 114) 104 23 .u32 4 rfl Try.underlying104 info_u32 (by decide) (.slice (some ⟨g, 0, none⟩) m cap) (sched (w16 b 16) (m - 16)) _ rfl rfl (by rw [HL.out]; exact HO2.out) HW2.out.bel HW2.out.bel.size (by rw [HL.out]; omega) ?_
          intro v1 w3 hown hbel hg
          have HO3 := Lib.hid hown
          have HW3 := Lib.hid (HW2.out.next HO2.out hg hbel)
          clear hown hbel hg HO2 HW2
          refine hK.out _ _ ?_
          clear hK K
          refine norm_ (a' := ?_) ?_ ?_
          rotate_left
          · show Act.put _ (some 115) _ = _
            simp only [Act.put, List.setIfInBounds_toArray, List.set_cons_zero, List.set_cons_succ, i64_w, i32_w]
            rfl
          refine pure_ (i := 18) (N := some 6) (v := ?_) (a' := ?_) #[true, true, true, true, true, true, true, true, true, true, true, true, true, true, true, true, true, true, true] rfl rfl (by kernel_rfl) (fun _ _ _ h => h) (Or.inl ⟨by rfl, ?_⟩) ?_ ?_
          rotate_left
          · intro w'
            go_simp
            with_reducible rfl
          rotate_left
          · simp only [Act.put, List.setIfInBounds_toArray, List.set_cons_zero, List.set_cons_succ, i64_w, i32_w]
            rfl
          refine done_ (by kernel_rfl) ?_
          go_wp2_with fail
          go_roundw
          case rel =>
            have e : sched (w16 b 16) (m + 1 - 16) = sched (w16 b 16) (m - 16) ++ [nextW (sched (w16 b 16) (m - 16)) m] := by
              rw [show m + 1 - 16 = (m - 16) + 1 by omega, sched, show 16 + (m - 16) = m by omega]
            (repeat apply Exists.intro)
            refine ⟨⟨m + 1, by omega, by omega, by go_num, Lib.hid ?_, HW3⟩, rfl⟩
            rw [e]
            have hn := HO3.out
            rw [next_walk2 _ _ _ _ _ _ E15.out E2.out E16.out E7.out] at hn
            exact hn
          case measure => simp [intOf]; omega
          -- END B
        · -- BEGIN C
          obtain rfl : m = 64 := by omega
          have hws : sched (w16 b 16) (64 - 16) = wsOf b := rfl
          rw [hws] at HO
          obtain ⟨cur, hcur, hcc⟩ : ∃ cur, wr.heap[g]? = some (.cells cur 23 (0, 0)) ∧ ∀ j, j < 64 → cur[j]? = some (.int .u32 ((wsOf b).getD j 0)) := by
            rcases HO.out.2 with ⟨h0, _⟩ | ⟨g', cap', cur, h0, _, hg', _, _, _, ht⟩
            · cases h0
            · injection h0 with h1 _ _
              injection h1 with h1
              injection h1 with h1
              subst h1
              refine ⟨cur, hg', fun j hj => ?_⟩
              have h2 : (cur.toList.take (64 * 1))[j]? = (nums .u32 (wsOf b))[j]? := by rw [ht]
              rw [List.getElem?_take_of_lt (by omega)] at h2
              rw [← Array.getElem?_toList, h2]
              have hl : j < (wsOf b).length := by rw [wsOf_length]; exact hj
              simp [nums, List.getElem?_eq_getElem hl]
          have HCC := Lib.hid hcc
          have HG := Lib.hid hcur
          clear hlen hU hm1 hm2 hlt hws HO HL hv hcc hcur
          obtain ⟨w1, rfl⟩ : ∃ w1 : World, w1 = wr := ⟨_, rfl⟩
          go_wp2_with fail
          refine (rwords_c _).mono ?_
          rintro e w2 ⟨rfl, hb2⟩
          have HG2 := Lib.hid (blk_below HG.out hb2)
          have HW2 := Lib.hid (show RbW w h w2 from ⟨blk_below HW.out.b0 hb2, blk_below HW.out.b1 hb2, below_step HW.out.bel hb2⟩)
          clear hb2 HG HW
          go_upto_region 17 with (refine Go.wpList_store_row rfl 24 (.tmp 13) (.tmp 116) rfl w2.heap.size (cellsU wordsL) rfl rfl 24 _ (new_ _ _ rfl) (by kernel_rfl) rfl (cellsU_one _) ?_)
          generalize hW3 : World.setRow (World.alloc w2 _) _ _ = w3
          have gl : w.heap.size + 1 < w2.heap.size := blk_lt HW2.out.b1
          have gl2 : g < w2.heap.size := blk_lt HG2.out
          have HK3 := Lib.hid (show w3.heap[w2.heap.size]? = some (.cells (cellsU wordsL) 24 (0, 0)) by rw [← hW3]; exact setRow_heap _ _ _ _ _ _ (new_ _ _ rfl))
          have HG3 := Lib.hid (show w3.heap[g]? = some (.cells cur 23 (0, 0)) by rw [← hW3]; exact (setRow_other _ _ _ _ (by omega)).trans (blk_alloc HG2.out _))
          have HW3 := Lib.hid (show RbW w h w3 by
            rw [← hW3]
            exact ⟨(setRow_other _ _ _ _ (by omega)).trans (blk_alloc HW2.out.b0 _), (setRow_other _ _ _ _ (by omega)).trans (blk_alloc HW2.out.b1 _), below_setRow (below_alloc HW2.out.bel _) (by omega) _⟩)
          clear hW3 HG2 HW2
          obtain ⟨gk, egk⟩ : ∃ gk, gk = w2.heap.size := ⟨_, rfl⟩
          rw [← egk] at HK3 gl gl2 ⊢
          clear egk
          have x0 : w3.cell? ⟨w.heap.size, 0, none⟩ = some (.int .u32 h.a) := blk_cell HW3.out.b0 0
          have x1 : w3.cell? ⟨w.heap.size, 1, none⟩ = some (.int .u32 h.b) := blk_cell HW3.out.b0 1
          have x2 : w3.cell? ⟨w.heap.size, 2, none⟩ = some (.int .u32 h.c) := blk_cell HW3.out.b0 2
          have x3 : w3.cell? ⟨w.heap.size, 3, none⟩ = some (.int .u32 h.d) := blk_cell HW3.out.b0 3
          have x4 : w3.cell? ⟨w.heap.size, 4, none⟩ = some (.int .u32 h.e) := blk_cell HW3.out.b0 4
          have x5 : w3.cell? ⟨w.heap.size, 5, none⟩ = some (.int .u32 h.f) := blk_cell HW3.out.b0 5
          have x6 : w3.cell? ⟨w.heap.size, 6, none⟩ = some (.int .u32 h.g) := blk_cell HW3.out.b0 6
          have x7 : w3.cell? ⟨w.heap.size, 7, none⟩ = some (.int .u32 h.h) := blk_cell HW3.out.b0 7
          go_wp2_with fail
          clear x0 x1 x2 x3 x4 x5 x6 x7
          go_loopw [14, 15, 16, 17, 18, 19, 20, 21, 22] (fun va vb vc vd ve vf vg vh i wr => ∃ (k : Nat) (st : St), k ≤ 64 ∧ i = .int .i64 k ∧ Hid (st = rnds h wordsL (wsOf b) k) ∧ va = .int .u32 st.a ∧ vb = .int .u32 st.b ∧ vc = .int .u32 st.c ∧ vd = .int .u32 st.d ∧ ve = .int .u32 st.e ∧ vf = .int .u32 st.f ∧ vg = .int .u32 st.g ∧ vh = .int .u32 st.h ∧ Hid (wr.heap[gk]? = some (.cells (cellsU wordsL) 24 (0, 0))) ∧ Hid (wr.heap[g]? = some (.cells cur 23 (0, 0))) ∧ Hid (RbW w h wr)) (fun _ _ _ _ _ _ _ _ i _ => 64 - (intOf i).toNat)
          case atStart => exact ⟨0, h, by omega, rfl, Lib.hid rfl, rfl, rfl, rfl, rfl, rfl, rfl, rfl, rfl, HK3, HG3, HW3⟩
          case round =>
            clear HK3 HG3 HW3
            obtain ⟨k, st, hk, rfl, EST, rfl, rfl, rfl, rfl, rfl, rfl, rfl, rfl, HK, HG, HW⟩ := hrel
            by_cases hlt : k < 64
            · have u : st.U := by rw [EST.out]; exact rnds_U HU.out _ _ _
              have uA : U st.a := u _ (by simp [St.list])
              have uE : U st.e := u _ (by simp [St.list])
              have e0 := uE.1
              have e1 := uE.2
              have y1 : wr.drew.cell? ⟨gk, k, none⟩ = some (.int .u32 (wordsL.getD k 0)) := (blk_cell (w := wr.drew) HK.out k).trans (cellsU_get _ _ hlt)
              have y2 : wr.drew.cell? ⟨g, k, none⟩ = some (.int .u32 ((wsOf b).getD k 0)) := (blk_cell (w := wr.drew) HG.out k).trans (HCC.out k hlt)
              have r1 := fun w' => run_at64 gk k hlt (k : Int) rfl w'
              have r2 := fun w' => run_sl g 64 cap k hlt (k : Int) rfl w'
              have hK2 := Lib.hid (show wr.drew.heap[gk]? = _ from HK.out)
              have hG2 := Lib.hid (show wr.drew.heap[g]? = _ from HG.out)
              have hW2 := Lib.hid HW.out.drew
              clear u HK HG HW
              go_wp2_with (first | (go_at_call 72; refine (rturn_c _ _ (by assumption) (by decide) (by decide) _).mono ?_; rintro e w4 ⟨rfl, rfl⟩))
              go_still (by kernel_rfl)
              change Exit.then _ _ _ _ wr.drew
              clear y1 y2 r1 r2
              generalize wr.drew = w5 at hK2 hG2 hW2 ⊢
              go_wp2_with (first | (go_at_call 72; refine (rturn_c _ _ (by assumption) (by decide) (by decide) _).mono ?_; rintro e w4 ⟨rfl, rfl⟩))
              go_roundw
              case rel =>
                refine ⟨k + 1, rnd st (wordsL.getD k 0) ((wsOf b).getD k 0), by omega, by go_num, Lib.hid (by rw [EST.out]; rfl), ?_, rfl, rfl, rfl, ?_, rfl, rfl, rfl, hK2, hG2, hW2⟩
                · simp only [rnd, tI, uI, S0, S1, chI, majI, IntKind.wrap_u32, List.getD_eq_getElem?_getD]
                · simp only [rnd, tI, uI, S0, S1, chI, majI, IntKind.wrap_u32, List.getD_eq_getElem?_getD]
              case measure => simp [intOf]; omega
            · obtain rfl : k = 64 := by omega
              have x0 : wr.cell? ⟨w.heap.size, 0, none⟩ = some (.int .u32 h.a) := blk_cell HW.out.b0 0
              have x1 : wr.cell? ⟨w.heap.size, 1, none⟩ = some (.int .u32 h.b) := blk_cell HW.out.b0 1
              have x2 : wr.cell? ⟨w.heap.size, 2, none⟩ = some (.int .u32 h.c) := blk_cell HW.out.b0 2
              have x3 : wr.cell? ⟨w.heap.size, 3, none⟩ = some (.int .u32 h.d) := blk_cell HW.out.b0 3
              have x4 : wr.cell? ⟨w.heap.size, 4, none⟩ = some (.int .u32 h.e) := blk_cell HW.out.b0 4
              have x5 : wr.cell? ⟨w.heap.size, 5, none⟩ = some (.int .u32 h.f) := blk_cell HW.out.b0 5
              have x6 : wr.cell? ⟨w.heap.size, 6, none⟩ = some (.int .u32 h.g) := blk_cell HW.out.b0 6
              have x7 : wr.cell? ⟨w.heap.size, 7, none⟩ = some (.int .u32 h.h) := blk_cell HW.out.b0 7
              clear HK HG hlt hk
              go_wp2_with (refine Go.wpList_store_row rfl 26 (.tmp 4) (.tmp 232) rfl (w.heap.size + 1) _ rfl rfl 26 _ HW.out.b1 (by kernel_rfl) rfl (one8 _ _ _ _ _ _ _ _) ?_)
              have hr := setRow_heap wr (w.heap.size + 1) _ (cellsU (mixS h b).list) _ _ HW.out.b1
              rw [mix_walk h st b EST.out]
              refine bodyPost_ret (v := .tuple #[u32s (mixS h b).list, .int .i64 0]) (results_row2 Try.results36 rfl hr Try.underlying26 (by kernel_rfl) rfl) rfl ⟨rfl, below_setRow HW.out.bel (by omega) _⟩
          -- END C
set_option maxHeartbeats 4000000 in
set_option maxRecDepth 100000 in
theorem rblock_no (hv : Array Value) (b : ByteArray) (hb : b.size ≠ 64) (w : World) :
    Calls Try.prog 36 #[.agg hv, .string b] w fun e w' => e = .returned (.tuple #[u32s [0, 0, 0, 0, 0, 0, 0, 0], .int .i64 1]) ∧ Below w.heap.size w w' := by
  have hne : ((b.size : Int) != 64) = true := by simp; omega
  clear hb
  go_enter Try.func36, Try.ntmps36
  go_wp2_with fail
  refine bodyPost_ret (v := .tuple #[u32s [0, 0, 0, 0, 0, 0, 0, 0], .int .i64 1]) (results_row2 Try.results36 rfl (new_ _ _ (by simp)) Try.underlying26 (by kernel_rfl) rfl) rfl ⟨rfl, ((Below.refl _ _).alloc (Nat.le_refl _) _).alloc (by simp) _⟩
end Go.Proofs.Ytefdokolbdnjnaa.Sa
