import Derived.Test.YtefdokolbdnjnaaWd
import Derived.Test.YtefdokolbdnjnaaBk
import Derived.Test.YtefdokolbdnjnaaRb
import Derived.Test.YtefdokolbdnjnaaWGuard
/-
  selvedgelaw02.ShaBlocks walked: the state behind a block. By an AI agent.
-/
namespace Go.Proofs.Ytefdokolbdnjnaa.Sa
open Go.Proofs.Ytefdokolbdnjnaa.Sm
open Go.RowKit Go.Proofs.YtefdokolbdnjnaaW.PrintWords Go.Proofs.YtefdokolbdnjnaaW.PrintLast Go.Proofs.YtefdokolbdnjnaaW.PrintMore
set_option linter.unusedVariables false
set_option linter.unusedSimpArgs false

set_option maxHeartbeats 8000000 in
set_option maxRecDepth 100000 in
theorem lawBlocks_g (h R : St) (c : Int) (b : ByteArray) (w : World)
    (kA : ∀ w : World, Calls Try.prog 35 #[.agg (cellsU h.list), .string b] w fun e w' => e = .returned (.tuple #[.agg (cellsU R.list), .int .i64 c]) ∧ Below w.heap.size w w')
    (kB : ∀ w : World, Calls Try.prog 36 #[.agg (cellsU h.list), .string b] w fun e w' => e = .returned (.tuple #[.agg (cellsU R.list), .int .i64 c]) ∧ Below w.heap.size w w') :
    Calls Try.prog 9 #[.agg (cellsU h.list), .string b] w fun e w' => e = .returned (.bool true) ∧ Below w.heap.size w w' := by
  have q2 : ∀ w : World, (Op.equalIn 10000 26 (.agg (cellsU R.list)) (.agg (cellsU R.list))).run Try.prog w = .ok true w := fun w => eq_row (P := Try.prog) Try.underlying26 (by kernel_rfl) (by kernel_rfl) (by kernel_rfl) R.list rfl w
  have m2 : Try.prog.eqGuardType Try.prog.depth 26 = false := by kernel_rfl
  have zR : (Try.prog.info? 26).map (·.size) = some (cellsU R.list).size := by kernel_rfl
  have zH : (Try.prog.info? 26).map (·.size) = some (cellsU h.list).size := by kernel_rfl
  have oR : (cellsU R.list).all (·.oneCell') = true := cellsU_one _
  have sR : (cellsU R.list).size = 8 := rfl
  replace kA := Lib.hid kA
  replace kB := Lib.hid kB
  replace zR := Lib.hid zR
  replace zH := Lib.hid zH
  replace oR := Lib.hid oR
  replace sR := Lib.hid sR
  generalize cellsU R.list = RV at q2 kA kB zR oR sR
  generalize cellsU h.list = HV at kA kB zH ⊢
  go_enter Try.func9, Try.ntmps9
  go_wp2_with fail
  refine (shown_c _).mono ?_
  rintro e w1 ⟨rfl, hb1⟩
  have C1 : w1.heap[w.heap.size]? = some (.cells HV 26 (0, 0)) := blk_below (new_ _ _ rfl) hb1
  have HB1 := Lib.hid (below_step ((Below.refl w.heap.size w).alloc (Nat.le_refl _) _) hb1)
  have C1 := Lib.hid C1
  have s1 := HB1.out.size
  clear hb1
  go_wp2_with (refine wpList_load_row rfl 26 _ rfl w.heap.size rfl 26 _ (0, 0) _ C1.out Try.underlying26 rfl zH.out ?_)
  refine (kA.out _).mono ?_
  rintro e w2 ⟨rfl, hb2⟩
  have HB2 := Lib.hid (below_step HB1.out hb2)
  have C2 := Lib.hid (blk_below C1.out hb2)
  have l2 : w.heap.size < w2.heap.size := (Array.getElem?_eq_some_iff.1 C2.out).1
  clear hb2 HB1 C1 s1
  go_wp2_with (first | (refine Go.wpList_store_row rfl 26 _ _ rfl w2.heap.size RV rfl rfl 26 _ (new_ _ _ rfl) zR.out sR.out.symm oR.out ?_) | (refine wpList_load_row rfl 26 _ rfl w.heap.size rfl 26 _ (0, 0) _ ((setRow_other _ _ _ _ (by omega)).trans (blk_alloc C2.out _)) Try.underlying26 rfl zH.out ?_))
  refine (kB.out _).mono ?_
  rintro e w3 ⟨rfl, hb3⟩
  have G3 : w3.heap[w2.heap.size]? = some (.cells RV 26 (0, 0)) := blk_below (setRow_heap _ _ _ _ _ _ (new_ _ _ rfl)) hb3
  have G3 := Lib.hid G3
  have HB3 := Lib.hid (below_step (below_setRow (HB2.out.alloc HB2.out.size _) HB2.out.size _) hb3)
  have l3 : w2.heap.size < w3.heap.size := (Array.getElem?_eq_some_iff.1 G3.out).1
  clear hb3
  go_wp2_with (first | (refine Go.wpList_store_row rfl 26 _ _ rfl w3.heap.size RV rfl rfl 26 _ (new_ _ _ rfl) zR.out sR.out.symm oR.out ?_) | (refine gate_guard (by rfl) ?_; refine wpList_load_row rfl 26 _ rfl w2.heap.size rfl 26 _ (0, 0) _ ((setRow_other _ _ _ _ (by omega)).trans (blk_alloc G3.out _)) Try.underlying26 rfl zR.out ?_) | (refine gate_guard (by rfl) ?_; refine wpList_load_row rfl 26 _ rfl w3.heap.size rfl 26 _ (0, 0) _ (setRow_heap _ _ _ _ _ _ (new_ _ _ rfl)) Try.underlying26 rfl zR.out ?_))
  go_ret
  exact ⟨rfl, below_setRow (HB3.out.alloc (by have := HB3.out.size; omega) _) (by have := HB3.out.size; omega) _⟩

theorem lawBlocks_c (h : St) (hU : h.U) (b : ByteArray) (w : World) : Calls Try.prog 9 #[.agg (cellsU h.list), .string b] w fun e w' => e = .returned (.bool true) ∧ Below w.heap.size w w' := by
  by_cases hb : b.size = 64
  · exact lawBlocks_g h (mixS h b) 0 b w (fun w => block_yes h hU b hb w) (fun w => rblock_yes h hU b hb w)
  · exact lawBlocks_g h ⟨0, 0, 0, 0, 0, 0, 0, 0⟩ 1 b w (fun w => block_no (cellsU h.list) b hb w) (fun w => rblock_no (cellsU h.list) b hb w)
end Go.Proofs.Ytefdokolbdnjnaa.Sa
