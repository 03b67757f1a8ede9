import Derived.Test.YtefdokolbdnjnaaMx
/-
  sha.Block walked. By an AI agent.
-/
namespace Go.Proofs.Ytefdokolbdnjnaa.Sa
open Go.Proofs.Ytefdokolbdnjnaa.Sm
open Go.RowKit Go.Proofs.YtefdokolbdnjnaaW.PrintWords Go.Proofs.YtefdokolbdnjnaaW.PrintLast Go.Proofs.YtefdokolbdnjnaaW.PrintMore
set_option linter.unusedVariables false
set_option linter.unusedSimpArgs false

theorem exec_load_row {P : Program} {o : Oper} {a : Act} {ty : TypeId} {x : Operand} {g : Nat} {t : TypeId} {cs : Array Value} {fr : Nat × Nat} {d : TypeDesc} (w : World) (ho : o.op = .load ty x) (hx : a.eval x = .pointer (some ⟨g, 0, none⟩)) (hg : w.heap[g]? = some (.cells cs t fr))
    (hu : P.underlying ty = some d) (hd : (match d with | .struct _ | .array _ _ => true | _ => false) = true) (hi : (P.info? ty).map (·.size) = some cs.size) : (execOp a.eval o).run P w = .ok (.value (.agg cs)) w := by
  unfold execOp
  simp only [ho, hx, Instr.loadAt, Instr.sureAddr, Sem.run_bind, Sem.run_pure, Result.andThen_ok, run_loadVar_row w g t ty cs fr d hg hu hd hi]
theorem exec_store_row {P : Program} {o : Oper} {a : Act} {ty : TypeId} {x y : Operand} {g : Nat} {cells old : Array Value} {t : TypeId} (w : World) (ho : o.op = .store ty x y) (hx : a.eval x = .pointer (some ⟨g, 0, none⟩)) (hy : a.eval y = .agg cells)
    (hg : w.heap[g]? = some (.cells old t (0, 0))) (hi : (P.info? ty).map (·.size) = some cells.size) (hold : old.size = cells.size) (h1 : cells.all (·.oneCell') = true) : (execOp a.eval o).run P w = .ok .skip (w.setRow g cells) := by
  unfold execOp
  simp only [ho, hx, hy, Instr.storeAt, Instr.sureAddr, Sem.run_bind, Sem.run_pure, Result.andThen_ok, run_storeVar_row w g t ty old cells hg hi hold h1]
/-- Two results, the first an array in a block. -/
theorem results_row2 {P : Program} {fn : Func} {a b : Tmp} {t : TypeId} (hr : fn.results = #[.cell a t, .tmp b]) {tmps : Array Value} {W : World} {g : Nat} (ha : tmps.getD a undef = .pointer (some ⟨g, 0, none⟩)) {ty : TypeId} {cs : Array Value} {fr : Nat × Nat} (hg : W.heap[g]? = some (.cells cs ty fr)) {n : Nat} {e : TypeId}
    (hu : P.underlying t = some (.array n e)) (hi : (P.info? t).map (·.size) = some cs.size) {v : Value} (hb : tmps.getD b undef = v) : (results fn tmps).run P W = .ok (.tuple #[.agg cs, v]) W := by
  have h := run_loadVar_row (P := P) W g ty t cs fr _ hg hu rfl hi
  rw [Array.getD_eq_getD_getElem?] at ha hb
  unfold results
  rw [hr]
  simp [ha, asAddr, h, hb]

set_option maxHeartbeats 8000000 in
set_option maxRecDepth 100000 in
theorem block_yes (h : St) (hU : h.U) (b : ByteArray) (hb : b.size = 64) (w : World) :
    Calls Try.prog 35 #[u32s h.list, .string b] w fun e w' => e = .returned (.tuple #[u32s (mixS h b).list, .int .i64 0]) ∧ Below w.heap.size w w' := by
  have HU := Lib.hid hU
  have HS := Lib.hid hb
  have hne : ((b.size : Int) != 64) = false := by rw [hb]; rfl
  clear hU hb
  show Calls _ _ #[.agg (cellsU h.list), .string b] _ _
  obtain ⟨hv, ehv⟩ : ∃ v, v = cellsU h.list := ⟨_, rfl⟩
  rw [← ehv]
  have EH := Lib.hid ehv
  clear ehv
  go_enter Try.func35, Try.ntmps35
  go_wp2_with fail
  have BH : Aside0 (((w.alloc (.cells hv 26)).alloc (.cells #[.int .u32 0, .int .u32 0, .int .u32 0, .int .u32 0, .int .u32 0, .int .u32 0, .int .u32 0, .int .u32 0] 26)).drew.heap[w.heap.size]? = some (.cells (cellsU h.list) 26 (0, 0))) := by
    refine ⟨?_⟩
    rw [← EH.out]
    exact blk_alloc (new_ _ _ rfl) _
  have BR0 : Aside0 (((w.alloc (.cells hv 26)).alloc (.cells #[.int .u32 0, .int .u32 0, .int .u32 0, .int .u32 0, .int .u32 0, .int .u32 0, .int .u32 0, .int .u32 0] 26)).drew.heap[w.heap.size + 1]? = some (.cells #[.int .u32 0, .int .u32 0, .int .u32 0, .int .u32 0, .int .u32 0, .int .u32 0, .int .u32 0, .int .u32 0] 26 (0, 0))) := ⟨new_ _ _ (by simp)⟩
  have HB0 : Aside0 (Below w.heap.size w ((w.alloc (.cells hv 26)).alloc (.cells #[.int .u32 0, .int .u32 0, .int .u32 0, .int .u32 0, .int .u32 0, .int .u32 0, .int .u32 0, .int .u32 0] 26))) := ⟨((Below.refl _ _).alloc (Nat.le_refl _) _).alloc (by simp) _⟩
  refine start_ (n := 6) (S := fun w' : World => w'.heap[w.heap.size]? = some (.cells (cellsU h.list) 26 (0, 0))) (ds := []) #[false, false, false, false, false, false] (by kernel_rfl) rfl rfl BH.out (fun hHeld => ?_)
  generalize Hwd : World.drew _ = w1 at hHeld ⊢
  replace BH := Aside0.mk hHeld
  have BR := Aside0.mk (show w1.heap[w.heap.size + 1]? = some (.cells #[.int .u32 0, .int .u32 0, .int .u32 0, .int .u32 0, .int .u32 0, .int .u32 0, .int .u32 0, .int .u32 0] 26 (0, 0)) from by rw [← Hwd]; exact BR0.out)
  have HB := Aside0.mk (show Below w.heap.size w w1 from by rw [← Hwd]; exact below_drew HB0.out)
  clear Hwd
  refine take_ (i := 0) (N := some 10) (v := .agg (cellsU h.list)) (a' := ?_) #[true, false, false, false, false, false] rfl rfl (by kernel_rfl) (fun _ _ _ h => h) (Or.inl ⟨by rfl, ?_⟩) hHeld ?_ ?_
  · rintro w' s0
    exact exec_load_row _ rfl rfl s0 Try.underlying26 rfl (by kernel_rfl)
  rotate_left
  · simp only [Act.put, List.setIfInBounds_toArray, List.set_cons_zero, List.set_cons_succ, i64_w, i32_w]
    rfl
  refine pure_ (i := 1) (N := some 11) (v := ?_) (a' := ?_) #[true, true, false, false, false, false] rfl rfl (by kernel_rfl) (fun _ _ _ h => h) (Or.inl ⟨by rfl, ?_⟩) ?_ ?_
  rotate_left
  · intro w'
    go_simp
    with_reducible rfl
  rotate_left
  · simp only [Act.put, List.setIfInBounds_toArray, List.set_cons_zero, List.set_cons_succ, i64_w, i32_w]
    rfl
  refine one_ (i := 2) (N := some 12) #[true, true, true, false, false, false] rfl rfl (by kernel_rfl) (by decide) (fun K hK => ?_)
  refine goes_ Try.func25 (by kernel_rfl) rfl #[] (by rfl) rfl rfl (by (try simp only [List.map_toArray, List.map_cons, List.map_nil]); first | done | rfl) ?_
  refine (words_c _).mono ?_
  rintro e w2 ⟨rfl, hb⟩
  refine ⟨_, rfl, ?_⟩
  have n0_ := Aside0.mk (blk_below BH.out hb)
  have n1_ := Aside0.mk (blk_below BR.out hb)
  have n2_ := Aside0.mk (below_step HB.out hb)
  clear BH BR HB hb
  have BH := n0_
  have BR := n1_
  have HB := n2_
  clear n0_ n1_ n2_
  refine hK.out _ _ BH.out (fun hHeld => ?_)
  clear hK K
  refine norm_ (a' := ?_) ?_ ?_
  rotate_left
  · show Act.put _ (some 12) _ = _
    simp only [Act.put, List.setIfInBounds_toArray, List.set_cons_zero, List.set_cons_succ, i64_w, i32_w]
    rfl
  refine one_ (i := 3) (N := some 13) #[true, true, true, true, false, false] rfl rfl (by kernel_rfl) (by decide) (fun K hK => ?_)
  refine goes_ Try.func69 (by kernel_rfl) rfl #[.agg (cellsU h.list), .string b, u32s wordsL] (by rfl) rfl rfl (by (try simp only [List.map_toArray, List.map_cons, List.map_nil]); first | done | rfl) ?_
  refine (mixed_c h HU.out b HS.out _).mono ?_
  rintro e w3 ⟨rfl, hb⟩
  refine ⟨_, rfl, ?_⟩
  have n0_ := Aside0.mk (blk_below BH.out hb)
  have n1_ := Aside0.mk (blk_below BR.out hb)
  have n2_ := Aside0.mk (below_step HB.out hb)
  clear BH BR HB hb
  have BH := n0_
  have BR := n1_
  have HB := n2_
  clear n0_ n1_ n2_
  refine hK.out _ _ BH.out (fun hHeld => ?_)
  clear hK K
  refine norm_ (a' := ?_) ?_ ?_
  rotate_left
  · show Act.put _ (some 13) _ = _
    simp only [Act.put, List.setIfInBounds_toArray, List.set_cons_zero, List.set_cons_succ, i64_w, i32_w]
    rfl
  refine one_ (i := 4) (N := none) #[true, true, true, true, true, false] rfl rfl (by kernel_rfl) (by decide) (fun K hK => ?_)
  refine skip_ (w1 := w3.setRow (w.heap.size + 1) (cellsU (mixS h b).list)) (by rfl) rfl ?_ ?_
  · exact exec_store_row _ rfl rfl rfl BR.out (by kernel_rfl) rfl (cellsU_one _)
  refine hK.out _ _ ((setRow_other _ _ _ _ (by omega)).trans BH.out) (fun hHeld => ?_)
  clear hK K
  refine pure_ (i := 5) (N := some 5) (v := ?_) (a' := ?_) #[true, true, true, true, true, true] rfl rfl (by kernel_rfl) (fun _ _ _ h => h) (Or.inl ⟨by rfl, ?_⟩) ?_ ?_
  rotate_left
  · intro w'
    go_simp
    with_reducible rfl
  rotate_left
  · simp only [Act.put, List.setIfInBounds_toArray, List.set_cons_zero, List.set_cons_succ, i64_w, i32_w]
    rfl
  refine done_ (by kernel_rfl) ?_
  go_wp2_with fail
  refine bodyPost_ret (v := .tuple #[u32s (mixS h b).list, .int .i64 0]) (results_row2 Try.results35 rfl (setRow_heap _ _ _ _ _ _ BR.out) Try.underlying26 (by kernel_rfl) rfl) rfl ⟨rfl, below_setRow HB.out (by omega) _⟩
set_option maxHeartbeats 4000000 in
set_option maxRecDepth 100000 in
theorem block_no (hv : Array Value) (b : ByteArray) (hb : b.size ≠ 64) (w : World) :
    Calls Try.prog 35 #[.agg hv, .string b] w fun e w' => e = .returned (.tuple #[u32s [0, 0, 0, 0, 0, 0, 0, 0], .int .i64 1]) ∧ Below w.heap.size w w' := by
  have hne : ((b.size : Int) != 64) = true := by simp; omega
  clear hb
  go_enter Try.func35, Try.ntmps35
  go_wp2_with fail
  refine bodyPost_ret (v := .tuple #[u32s [0, 0, 0, 0, 0, 0, 0, 0], .int .i64 1]) (results_row2 Try.results35 rfl (new_ _ _ (by simp)) Try.underlying26 (by kernel_rfl) rfl) rfl ⟨rfl, ((Below.refl _ _).alloc (Nat.le_refl _) _).alloc (by simp) _⟩
end Go.Proofs.Ytefdokolbdnjnaa.Sa
