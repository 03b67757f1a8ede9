import Derived.Test.YtiknkkkfkifahaaDz
import Derived.Test.YtiknkkkfkifahaaRz
import Derived.Test.YtiknkkkfkifahaaHz
import Derived.Test.YtiknkkkfkifahaaKt
import Derived.Test.YtiknkkkfkifahaaWShare
import Derived.Test.YtiknkkkfkifahaaWMore
section
/-
  slices.Clone at []string, as the print wants it told. By an AI agent.
-/
namespace Go.Proofs.Ytiknkkkfkifahaa.Sa
open Go.RowKit Go.Proofs.YtiknkkkfkifahaaW.PrintWords Go.Proofs.YtiknkkkfkifahaaW.PrintLast Go.Proofs.YtiknkkkfkifahaaW.PrintMore
set_option linter.unusedVariables false

theorem clone_c (A : Option Addr) (c : Nat) (l : List ByteArray) (w : World) (hr : Kd.C Kd.string w A l.length l) (hs : l.length * 16 ≤ 140737488355328) :
    Calls Try.prog 48 #[.slice A l.length c] w fun e w' => ∃ v0_ : Value, e = .returned (v0_) ∧ Kd.R Kd.string 9 w' w.heap.size (fun _ => True) v0_ l ∧ Below w.heap.size w w' := by
  cases l with
  | nil =>
    cases A with
    | none =>
      refine (Try.slices_Clone_string_nil 0 c w).mono ?_
      rintro e w' ⟨rfl, rfl⟩
      exact ⟨_, rfl, Kd.R_nil _ _ _ _ _, Below.refl _ _⟩
    | some a =>
      refine (Try.slices_Clone_string_zero a c w).mono ?_
      rintro e w' ⟨v, rfl, ho, _, hb⟩
      exact ⟨v, rfl, Kd.R_of_own ho (fun _ _ => trivial), hb⟩
  | cons x l =>
    have h0 := Kd.C_get hr ByteArray.empty 0 (by omega) (by simp)
    obtain ⟨ad, cs, rfl, _, hK, hcell⟩ := h0
    have hK' : cs = [.string x] := hK
    subst hK'
    obtain ⟨b, off, s⟩ := ad
    have hsp : s = none := by
      have h := hcell 0 _ rfl
      have e : ((0 : Int).toNat * Kd.string.sz + 0) = 0 := rfl
      rw [e] at h
      simp only [Addr.add, if_pos] at h
      unfold World.cell? at h
      cases s with
      | none => rfl
      | some s => revert h; split <;> simp
    subst hsp
    refine (Try.slices_Clone_string b off (x :: l).length c (x :: l) w (Nat.le_refl _) hs (fun j hj => ?_)).mono ?_
    · obtain ⟨ad, cs, he, _, hK, hcell⟩ := Kd.C_get hr ByteArray.empty (j : Int) (by omega) (by omega)
      cases he
      have hK' : cs = [.string ((x :: l).getD j ByteArray.empty)] := hK
      subst hK'
      have h := hcell 0 _ rfl
      have e : ((j : Int).toNat * Kd.string.sz + 0) = j := by
        show (j : Int).toNat * 1 + 0 = j
        omega
      rw [e, addp] at h
      exact h
    · rintro e w' ⟨v, rfl, ho, _, hb⟩
      rw [List.take_of_length_le (Nat.le_refl _)] at ho
      exact ⟨v, rfl, Kd.R_of_own ho (fun _ _ => trivial), hb⟩
end Go.Proofs.Ytiknkkkfkifahaa.Sa
end
section
/-
  The blocks' digests walked: cut.Digest and the reference's. By an AI agent.
-/
namespace Go.Proofs.Ytiknkkkfkifahaa.Sa
open Go.Proofs.Ytiknkkkfkifahaa.Sm
open Go.RowKit Go.Proofs.YtiknkkkfkifahaaW.PrintWords Go.Proofs.YtiknkkkfkifahaaW.PrintLast Go.Proofs.YtiknkkkfkifahaaW.PrintMore
attribute [local go_sem] max2_int min2_int max_two min_two
set_option linter.unusedVariables false
set_option linter.unusedSimpArgs false

/-- a block's digest -/
def digB (n : Int) (p : ByteArray) (l : List ByteArray) : ByteArray := sumB (⟨#[107]⟩ ++ numB n.toNat ++ textB p ++ rowB l)
theorem rowB_le (l : List ByteArray) : (rowB l).size ≤ sizes l + 9 := by
  have h1 := rowL_length l
  have h2 := numB_le l.length
  have h3 : (numB l.length).data.toList.length = (numB l.length).size := by rw [Array.length_toList]; rfl
  show ((numB l.length).data.toList ++ rowL l).toArray.size ≤ _
  rw [List.size_toArray, List.length_append]
  omega
set_option maxHeartbeats 8000000 in
set_option maxRecDepth 100000 in
theorem digest_c (n : Int) (p : ByteArray) (A : Option Addr) (c : Nat) (l : List ByteArray) (w : World) (hn : n ≤ 9223372036854775807) (hr : Kd.C Kd.string w A l.length l) (hs : p.size + sizes l ≤ 140737488350000) :
    Calls Try.prog 23 #[.agg #[.int .i64 n, .string p, .slice A l.length c]] w fun e w' => e = .returned (.string (digB n p l)) ∧ Below w.heap.size w w' := by
  obtain ⟨V, hV⟩ : ∃ V : Nat, V = n.toNat := ⟨_, rfl⟩
  have hmx : (if n < 0 then 0 else n) = (V : Int) := by split <;> omega
  have hwr : IntKind.u64.wrap (V : Int) = (V : Int) := by rw [IntKind.wrap_u64]; omega
  have KN := Lib.hid (fun w => num_c V (by omega) w)
  have KT := Lib.hid (fun w => text_c p (by omega) w)
  have KR : Hid (∀ (w1 : World), Below w.heap.size w w1 → Calls Try.prog 52 #[.slice A l.length c] w1 fun e w' => e = .returned (.string (rowB l)) ∧ Below w1.heap.size w1 w') := Lib.hid (fun w1 hb => row_c A c l w1 (Kd.C_below hr hb) (by omega))
  have z1 := numB_le V
  have z2 := textB_le p
  have z3 := rowB_le l
  have hD := Lib.hid (show sumB (⟨#[107]⟩ ++ numB V ++ textB p ++ rowB l) = digB n p l by unfold digB; rw [hV])
  obtain ⟨X1, e1⟩ : ∃ X, X = numB V := ⟨_, rfl⟩
  obtain ⟨X2, e2⟩ : ∃ X, X = textB p := ⟨_, rfl⟩
  obtain ⟨X3, e3⟩ : ∃ X, X = rowB l := ⟨_, rfl⟩
  rw [← e1] at KN hD z1
  rw [← e2] at KT hD z2
  rw [← e3] at KR hD z3
  have k0 : (⟨#[107]⟩ : ByteArray).size = 1 := rfl
  have o1 : ¬ 9223372036854775807 < 1 + X1.size := by omega
  have o2 : ¬ 9223372036854775807 < 1 + X1.size + X2.size := by omega
  have o3 : ¬ 9223372036854775807 < 1 + X1.size + X2.size + X3.size := by omega
  have z4 : (⟨#[107]⟩ ++ X1 ++ X2 ++ X3 : ByteArray).size ≤ 140737488351232 := by rw [ByteArray.size_append, ByteArray.size_append, ByteArray.size_append]; omega
  have KS := Lib.hid (fun w => sum_c (⟨#[107]⟩ ++ X1 ++ X2 ++ X3 : ByteArray) z4 w)
  rw [hD.out] at KS
  clear e1 e2 e3 hD z1 z2 z3 z4 hr hs k0
  clear hn hV
  go_enter Try.func23, Try.ntmps23
  go_wp2_with fail
  have HG : Aside0 ((w.alloc (.cells #[.int .i64 n, .string p, .slice A l.length c] 25)).heap[w.heap.size]? = some (.cells #[.int .i64 n, .string p, .slice A l.length c] 25 (0, 0))) := ⟨new_ _ _ rfl⟩
  have HB := Aside0.mk ((Below.refl w.heap.size w).alloc (Nat.le_refl _) (.cells #[.int .i64 n, .string p, .slice A l.length c] 25))
  refine start_ (n := 16) (S := fun w' : World => w'.cell? ⟨w.heap.size, 0, none⟩ = some (.int .i64 n) ∧ w'.cell? ⟨w.heap.size, 1, none⟩ = some (.string p) ∧ w'.cell? ⟨w.heap.size, 2, none⟩ = some (.slice A l.length c)) (ds := []) #[false, false, false, false, false, false, false, false, false, false, false, false, false, false, false, false] (by kernel_rfl) rfl rfl ⟨(blk_cell HG.out 0).trans rfl, (blk_cell HG.out 1).trans rfl, (blk_cell HG.out 2).trans rfl⟩ (fun hHeld => ?_)
  replace HB := Aside0.mk (below_drew1 HB.out)
  replace HG := Aside0.mk (blk_drew HG.out)
  generalize World.drew _ = w1 at hHeld HG HB ⊢
  refine pure_ (i := 0) (N := some 3) (v := ?_) (a' := ?_) #[true, false, false, false, false, false, false, false, false, false, false, false, false, false, false, false] rfl rfl (by kernel_rfl) (fun _ _ _ h => h) (Or.inl ⟨by rfl, ?_⟩) ?_ ?_
  rotate_left
  · intro w'
    go_simp
    with_reducible rfl
  rotate_left
  · simp only [Act.put, List.setIfInBounds_toArray, List.set_cons_zero, List.set_cons_succ, i64_w, i32_w]
    rfl
  refine take_ (i := 1) (N := some 4) (v := ?_) (a' := ?_) #[true, true, false, false, false, false, false, false, false, false, false, false, false, false, false, false] rfl rfl (by kernel_rfl) (fun _ _ _ h => h) (Or.inl ⟨by rfl, ?_⟩) hHeld ?_ ?_
  rotate_left
  · rintro w' ⟨s0, s1, s2⟩
    go_simp
    with_reducible rfl
  rotate_left
  · simp only [Act.put, List.setIfInBounds_toArray, List.set_cons_zero, List.set_cons_succ, i64_w, i32_w]
    rfl
  refine pure_ (i := 2) (N := some 5) (v := ?_) (a' := ?_) #[true, true, true, false, false, false, false, false, false, false, false, false, false, false, false, false] rfl rfl (by kernel_rfl) (fun _ _ _ h => h) (Or.inl ⟨by rfl, ?_⟩) ?_ ?_
  rotate_left
  · intro w'
    go_simp
    with_reducible rfl
  rotate_left
  · simp only [Act.put, List.setIfInBounds_toArray, List.set_cons_zero, List.set_cons_succ, i64_w, i32_w]
    rfl
  refine pure_ (i := 3) (N := some 6) (v := ?_) (a' := ?_) #[true, true, true, true, false, false, false, false, false, false, false, false, false, false, false, false] rfl rfl (by kernel_rfl) (fun _ _ _ h => h) (Or.inl ⟨by rfl, ?_⟩) ?_ ?_
  rotate_left
  · intro w'
    go_simp
    with_reducible rfl
  rotate_left
  · simp only [Act.put, List.setIfInBounds_toArray, List.set_cons_zero, List.set_cons_succ, i64_w, i32_w]
    rfl
  refine pure_ (i := 6) (N := some 9) (v := ?_) (a' := ?_) #[true, true, true, true, false, false, true, false, false, false, false, false, false, false, false, false] rfl rfl (by kernel_rfl) (fun _ _ _ h => h) (Or.inl ⟨by rfl, ?_⟩) ?_ ?_
  rotate_left
  · intro w'
    go_simp
    with_reducible rfl
  rotate_left
  · simp only [Act.put, List.setIfInBounds_toArray, List.set_cons_zero, List.set_cons_succ, i64_w, i32_w]
    rfl
  refine take_ (i := 7) (N := some 10) (v := ?_) (a' := ?_) #[true, true, true, true, false, false, true, true, false, false, false, false, false, false, false, false] rfl rfl (by kernel_rfl) (fun _ _ _ h => h) (Or.inl ⟨by rfl, ?_⟩) hHeld ?_ ?_
  rotate_left
  · rintro w' ⟨s0, s1, s2⟩
    go_simp
    with_reducible rfl
  rotate_left
  · simp only [Act.put, List.setIfInBounds_toArray, List.set_cons_zero, List.set_cons_succ, i64_w, i32_w]
    rfl
  refine pure_ (i := 10) (N := some 13) (v := ?_) (a' := ?_) #[true, true, true, true, false, false, true, true, false, false, true, false, false, false, false, false] rfl rfl (by kernel_rfl) (fun _ _ _ h => h) (Or.inl ⟨by rfl, ?_⟩) ?_ ?_
  rotate_left
  · intro w'
    go_simp
    with_reducible rfl
  rotate_left
  · simp only [Act.put, List.setIfInBounds_toArray, List.set_cons_zero, List.set_cons_succ, i64_w, i32_w]
    rfl
  refine take_ (i := 11) (N := some 14) (v := ?_) (a' := ?_) #[true, true, true, true, false, false, true, true, false, false, true, true, false, false, false, false] rfl rfl (by kernel_rfl) (fun _ _ _ h => h) (Or.inl ⟨by rfl, ?_⟩) hHeld ?_ ?_
  rotate_left
  · rintro w' ⟨s0, s1, s2⟩
    go_simp
    with_reducible rfl
  rotate_left
  · simp only [Act.put, List.setIfInBounds_toArray, List.set_cons_zero, List.set_cons_succ, i64_w, i32_w]
    rfl
  refine one_ (i := 4) (N := some 7) #[true, true, true, true, true, false, true, true, false, false, true, true, false, false, false, false] rfl rfl (by kernel_rfl) (by decide) (fun K hK => ?_)
  refine goes_ Try.func50 (by kernel_rfl) rfl #[.int .u64 (V : Int)] (by rfl) rfl rfl (by (try simp only [List.map_toArray, List.map_cons, List.map_nil]); first | done | rfl) ?_
  refine (KN.out _).mono ?_
  rintro e wa1 ⟨rfl, hb⟩
  refine ⟨_, rfl, ?_⟩
  have n0_ := Aside0.mk (blk_below HG.out hb)
  have n1_ := Aside0.mk (below_step HB.out hb)
  clear HG HB hb
  have HG := n0_
  have HB := n1_
  clear n0_ n1_
  refine hK.out _ _ ⟨(blk_cell HG.out 0).trans rfl, (blk_cell HG.out 1).trans rfl, (blk_cell HG.out 2).trans rfl⟩ (fun hHeld => ?_)
  clear hK K
  refine norm_ (a' := ?_) ?_ ?_
  rotate_left
  · show Act.put _ (some 7) _ = _
    simp only [Act.put, List.setIfInBounds_toArray, List.set_cons_zero, List.set_cons_succ, i64_w, i32_w]
    rfl
  refine pure_ (i := 5) (N := some 8) (v := ?_) (a' := ?_) #[true, true, true, true, true, true, true, true, false, false, true, true, false, false, false, false] rfl rfl (by kernel_rfl) (fun _ _ _ h => h) (Or.inl ⟨by rfl, ?_⟩) ?_ ?_
  rotate_left
  · intro w'
    go_simp
    with_reducible rfl
  rotate_left
  · simp only [Act.put, List.setIfInBounds_toArray, List.set_cons_zero, List.set_cons_succ, i64_w, i32_w]
    rfl
  refine one_ (i := 8) (N := some 11) #[true, true, true, true, true, true, true, true, true, false, true, true, false, false, false, false] rfl rfl (by kernel_rfl) (by decide) (fun K hK => ?_)
  refine goes_ Try.func51 (by kernel_rfl) rfl #[.string p] (by rfl) rfl rfl (by (try simp only [List.map_toArray, List.map_cons, List.map_nil]); first | done | rfl) ?_
  refine (KT.out _).mono ?_
  rintro e wa2 ⟨rfl, hb⟩
  refine ⟨_, rfl, ?_⟩
  have n0_ := Aside0.mk (blk_below HG.out hb)
  have n1_ := Aside0.mk (below_step HB.out hb)
  clear HG HB hb
  have HG := n0_
  have HB := n1_
  clear n0_ n1_
  refine hK.out _ _ ⟨(blk_cell HG.out 0).trans rfl, (blk_cell HG.out 1).trans rfl, (blk_cell HG.out 2).trans rfl⟩ (fun hHeld => ?_)
  clear hK K
  refine norm_ (a' := ?_) ?_ ?_
  rotate_left
  · show Act.put _ (some 11) _ = _
    simp only [Act.put, List.setIfInBounds_toArray, List.set_cons_zero, List.set_cons_succ, i64_w, i32_w]
    rfl
  refine pure_ (i := 9) (N := some 12) (v := ?_) (a' := ?_) #[true, true, true, true, true, true, true, true, true, true, true, true, false, false, false, false] rfl rfl (by kernel_rfl) (fun _ _ _ h => h) (Or.inl ⟨by rfl, ?_⟩) ?_ ?_
  rotate_left
  · intro w'
    go_simp
    with_reducible rfl
  rotate_left
  · simp only [Act.put, List.setIfInBounds_toArray, List.set_cons_zero, List.set_cons_succ, i64_w, i32_w]
    rfl
  refine one_ (i := 12) (N := some 15) #[true, true, true, true, true, true, true, true, true, true, true, true, true, false, false, false] rfl rfl (by kernel_rfl) (by decide) (fun K hK => ?_)
  refine goes_ Try.func52 (by kernel_rfl) rfl #[.slice A l.length c] (by rfl) rfl rfl (by (try simp only [List.map_toArray, List.map_cons, List.map_nil]); first | done | rfl) ?_
  refine (KR.out _ HB.out).mono ?_
  rintro e wa3 ⟨rfl, hb⟩
  refine ⟨_, rfl, ?_⟩
  have n0_ := Aside0.mk (blk_below HG.out hb)
  have n1_ := Aside0.mk (below_step HB.out hb)
  clear HG HB hb
  have HG := n0_
  have HB := n1_
  clear n0_ n1_
  refine hK.out _ _ ⟨(blk_cell HG.out 0).trans rfl, (blk_cell HG.out 1).trans rfl, (blk_cell HG.out 2).trans rfl⟩ (fun hHeld => ?_)
  clear hK K
  refine norm_ (a' := ?_) ?_ ?_
  rotate_left
  · show Act.put _ (some 15) _ = _
    simp only [Act.put, List.setIfInBounds_toArray, List.set_cons_zero, List.set_cons_succ, i64_w, i32_w]
    rfl
  refine pure_ (i := 13) (N := some 16) (v := ?_) (a' := ?_) #[true, true, true, true, true, true, true, true, true, true, true, true, true, true, false, false] rfl rfl (by kernel_rfl) (fun _ _ _ h => h) (Or.inl ⟨by rfl, ?_⟩) ?_ ?_
  rotate_left
  · intro w'
    go_simp
    with_reducible rfl
  rotate_left
  · simp only [Act.put, List.setIfInBounds_toArray, List.set_cons_zero, List.set_cons_succ, i64_w, i32_w]
    rfl
  refine one_ (i := 14) (N := some 17) #[true, true, true, true, true, true, true, true, true, true, true, true, true, true, true, false] rfl rfl (by kernel_rfl) (by decide) (fun K hK => ?_)
  refine goes_ Try.func49 (by kernel_rfl) rfl #[.string (⟨#[107]⟩ ++ X1 ++ X2 ++ X3 : ByteArray)] (by rfl) rfl rfl (by (try simp only [List.map_toArray, List.map_cons, List.map_nil]); first | done | rfl) ?_
  refine (KS.out _).mono ?_
  rintro e wa4 ⟨rfl, hb⟩
  refine ⟨_, rfl, ?_⟩
  have n0_ := Aside0.mk (blk_below HG.out hb)
  have n1_ := Aside0.mk (below_step HB.out hb)
  clear HG HB hb
  have HG := n0_
  have HB := n1_
  clear n0_ n1_
  refine hK.out _ _ ⟨(blk_cell HG.out 0).trans rfl, (blk_cell HG.out 1).trans rfl, (blk_cell HG.out 2).trans rfl⟩ (fun hHeld => ?_)
  clear hK K
  refine norm_ (a' := ?_) ?_ ?_
  rotate_left
  · show Act.put _ (some 17) _ = _
    simp only [Act.put, List.setIfInBounds_toArray, List.set_cons_zero, List.set_cons_succ, i64_w, i32_w]
    rfl
  refine pure_ (i := 15) (N := some 2) (v := ?_) (a' := ?_) #[true, true, true, true, true, true, true, true, true, true, true, true, true, true, true, true] rfl rfl (by kernel_rfl) (fun _ _ _ h => h) (Or.inl ⟨by rfl, ?_⟩) ?_ ?_
  rotate_left
  · intro w'
    go_simp
    with_reducible rfl
  rotate_left
  · simp only [Act.put, List.setIfInBounds_toArray, List.set_cons_zero, List.set_cons_succ, i64_w, i32_w]
    rfl
  refine done_ (by kernel_rfl) ?_
  go_wp2_with fail
  go_ret
  exact ⟨rfl, HB.out⟩
set_option maxHeartbeats 8000000 in
set_option maxRecDepth 100000 in
theorem rdigest_c (n : Int) (p : ByteArray) (A : Option Addr) (c : Nat) (l : List ByteArray) (w : World) (hn : n ≤ 9223372036854775807) (hr : Kd.C Kd.string w A l.length l) (hs : p.size + sizes l ≤ 140737488350000) :
    Calls Try.prog 24 #[.agg #[.int .i64 n, .string p, .slice A l.length c]] w fun e w' => e = .returned (.string (digB n p l)) ∧ Below w.heap.size w w' := by
  obtain ⟨V, hV⟩ : ∃ V : Nat, V = n.toNat := ⟨_, rfl⟩
  have hmx : (if n < 0 then 0 else n) = (V : Int) := by split <;> omega
  have hwr : IntKind.u64.wrap (V : Int) = (V : Int) := by rw [IntKind.wrap_u64]; omega
  have KN := Lib.hid (fun w => rnum_c V (by omega) w)
  have KT := Lib.hid (fun w => rtext_c p (by omega) w)
  have KR : Hid (∀ (w1 : World), Below w.heap.size w w1 → Calls Try.prog 56 #[.slice A l.length c] w1 fun e w' => e = .returned (.string (rowB l)) ∧ Below w1.heap.size w1 w') := Lib.hid (fun w1 hb => rrow_c A c l w1 (Kd.C_below hr hb) (by omega))
  have z1 := numB_le V
  have z2 := textB_le p
  have z3 := rowB_le l
  have hD := Lib.hid (show sumB (⟨#[107]⟩ ++ numB V ++ textB p ++ rowB l) = digB n p l by unfold digB; rw [hV])
  obtain ⟨X1, e1⟩ : ∃ X, X = numB V := ⟨_, rfl⟩
  obtain ⟨X2, e2⟩ : ∃ X, X = textB p := ⟨_, rfl⟩
  obtain ⟨X3, e3⟩ : ∃ X, X = rowB l := ⟨_, rfl⟩
  rw [← e1] at KN hD z1
  rw [← e2] at KT hD z2
  rw [← e3] at KR hD z3
  have k0 : (⟨#[107]⟩ : ByteArray).size = 1 := rfl
  have o1 : ¬ 9223372036854775807 < 1 + X1.size := by omega
  have o2 : ¬ 9223372036854775807 < 1 + X1.size + X2.size := by omega
  have o3 : ¬ 9223372036854775807 < 1 + X1.size + X2.size + X3.size := by omega
  have z4 : (⟨#[107]⟩ ++ X1 ++ X2 ++ X3 : ByteArray).size ≤ 140737488351232 := by rw [ByteArray.size_append, ByteArray.size_append, ByteArray.size_append]; omega
  have KS := Lib.hid (fun w => rsum_c (⟨#[107]⟩ ++ X1 ++ X2 ++ X3 : ByteArray) z4 w)
  rw [hD.out] at KS
  clear e1 e2 e3 hD z1 z2 z3 z4 hr hs k0
  clear hmx
  go_enter Try.func24, Try.ntmps24
  by_cases hpos : n > 0
  · have hnV : n = (V : Int) := by omega
    have dpos : decide (n > 0) = true := decide_eq_true hpos
    have dpos' : decide (0 < n) = true := decide_eq_true hpos
    have hwn : IntKind.u64.wrap n = (V : Int) := by rw [hnV]; exact hwr
    clear hn hV hnV hpos
    go_wp2_with fail
    have HG : Aside0 ((w.alloc (.cells #[.int .i64 n, .string p, .slice A l.length c] 25)).heap[w.heap.size]? = some (.cells #[.int .i64 n, .string p, .slice A l.length c] 25 (0, 0))) := ⟨new_ _ _ rfl⟩
    have HB := Aside0.mk ((Below.refl w.heap.size w).alloc (Nat.le_refl _) (.cells #[.int .i64 n, .string p, .slice A l.length c] 25))
    refine start_ (n := 13) (S := fun w' : World => w'.cell? ⟨w.heap.size, 0, none⟩ = some (.int .i64 n) ∧ w'.cell? ⟨w.heap.size, 1, none⟩ = some (.string p) ∧ w'.cell? ⟨w.heap.size, 2, none⟩ = some (.slice A l.length c)) (ds := []) #[false, false, false, false, false, false, false, false, false, false, false, false, false] (by kernel_rfl) rfl rfl ⟨(blk_cell HG.out 0).trans rfl, (blk_cell HG.out 1).trans rfl, (blk_cell HG.out 2).trans rfl⟩ (fun hHeld => ?_)
    replace HB := Aside0.mk (below_drew1 HB.out)
    replace HG := Aside0.mk (blk_drew HG.out)
    generalize World.drew _ = w1 at hHeld HG HB ⊢
    refine pure_ (i := 0) (N := some 10) (v := ?_) (a' := ?_) #[true, false, false, false, false, false, false, false, false, false, false, false, false] rfl rfl (by kernel_rfl) (fun _ _ _ h => h) (Or.inl ⟨by rfl, ?_⟩) ?_ ?_
    rotate_left
    · intro w'
      go_simp
      with_reducible rfl
    rotate_left
    · simp only [Act.put, List.setIfInBounds_toArray, List.set_cons_zero, List.set_cons_succ, i64_w, i32_w]
      rfl
    refine pure_ (i := 3) (N := some 13) (v := ?_) (a' := ?_) #[true, false, false, true, false, false, false, false, false, false, false, false, false] rfl rfl (by kernel_rfl) (fun _ _ _ h => h) (Or.inl ⟨by rfl, ?_⟩) ?_ ?_
    rotate_left
    · intro w'
      go_simp
      with_reducible rfl
    rotate_left
    · simp only [Act.put, List.setIfInBounds_toArray, List.set_cons_zero, List.set_cons_succ, i64_w, i32_w]
      rfl
    refine take_ (i := 4) (N := some 14) (v := ?_) (a' := ?_) #[true, false, false, true, true, false, false, false, false, false, false, false, false] rfl rfl (by kernel_rfl) (fun _ _ _ h => h) (Or.inl ⟨by rfl, ?_⟩) hHeld ?_ ?_
    rotate_left
    · rintro w' ⟨s0, s1, s2⟩
      go_simp
      with_reducible rfl
    rotate_left
    · simp only [Act.put, List.setIfInBounds_toArray, List.set_cons_zero, List.set_cons_succ, i64_w, i32_w]
      rfl
    refine pure_ (i := 7) (N := some 17) (v := ?_) (a' := ?_) #[true, false, false, true, true, false, false, true, false, false, false, false, false] rfl rfl (by kernel_rfl) (fun _ _ _ h => h) (Or.inl ⟨by rfl, ?_⟩) ?_ ?_
    rotate_left
    · intro w'
      go_simp
      with_reducible rfl
    rotate_left
    · simp only [Act.put, List.setIfInBounds_toArray, List.set_cons_zero, List.set_cons_succ, i64_w, i32_w]
      rfl
    refine take_ (i := 8) (N := some 18) (v := ?_) (a' := ?_) #[true, false, false, true, true, false, false, true, true, false, false, false, false] rfl rfl (by kernel_rfl) (fun _ _ _ h => h) (Or.inl ⟨by rfl, ?_⟩) hHeld ?_ ?_
    rotate_left
    · rintro w' ⟨s0, s1, s2⟩
      go_simp
      with_reducible rfl
    rotate_left
    · simp only [Act.put, List.setIfInBounds_toArray, List.set_cons_zero, List.set_cons_succ, i64_w, i32_w]
      rfl
    refine one_ (i := 1) (N := some 11) #[true, true, false, true, true, false, false, true, true, false, false, false, false] rfl rfl (by kernel_rfl) (by decide) (fun K hK => ?_)
    refine goes_ Try.func54 (by kernel_rfl) rfl #[.int .u64 (V : Int)] (by rfl) rfl rfl (by (try simp only [List.map_toArray, List.map_cons, List.map_nil]); first | done | rfl) ?_
    refine (KN.out _).mono ?_
    rintro e wa1 ⟨rfl, hb⟩
    refine ⟨_, rfl, ?_⟩
    have n0_ := Aside0.mk (blk_below HG.out hb)
    have n1_ := Aside0.mk (below_step HB.out hb)
    clear HG HB hb
    have HG := n0_
    have HB := n1_
    clear n0_ n1_
    refine hK.out _ _ ⟨(blk_cell HG.out 0).trans rfl, (blk_cell HG.out 1).trans rfl, (blk_cell HG.out 2).trans rfl⟩ (fun hHeld => ?_)
    clear hK K
    refine norm_ (a' := ?_) ?_ ?_
    rotate_left
    · show Act.put _ (some 11) _ = _
      simp only [Act.put, List.setIfInBounds_toArray, List.set_cons_zero, List.set_cons_succ, i64_w, i32_w]
      rfl
    refine pure_ (i := 2) (N := some 12) (v := ?_) (a' := ?_) #[true, true, true, true, true, false, false, true, true, false, false, false, false] rfl rfl (by kernel_rfl) (fun _ _ _ h => h) (Or.inl ⟨by rfl, ?_⟩) ?_ ?_
    rotate_left
    · intro w'
      go_simp
      with_reducible rfl
    rotate_left
    · simp only [Act.put, List.setIfInBounds_toArray, List.set_cons_zero, List.set_cons_succ, i64_w, i32_w]
      rfl
    refine one_ (i := 5) (N := some 15) #[true, true, true, true, true, true, false, true, true, false, false, false, false] rfl rfl (by kernel_rfl) (by decide) (fun K hK => ?_)
    refine goes_ Try.func55 (by kernel_rfl) rfl #[.string p] (by rfl) rfl rfl (by (try simp only [List.map_toArray, List.map_cons, List.map_nil]); first | done | rfl) ?_
    refine (KT.out _).mono ?_
    rintro e wa2 ⟨rfl, hb⟩
    refine ⟨_, rfl, ?_⟩
    have n0_ := Aside0.mk (blk_below HG.out hb)
    have n1_ := Aside0.mk (below_step HB.out hb)
    clear HG HB hb
    have HG := n0_
    have HB := n1_
    clear n0_ n1_
    refine hK.out _ _ ⟨(blk_cell HG.out 0).trans rfl, (blk_cell HG.out 1).trans rfl, (blk_cell HG.out 2).trans rfl⟩ (fun hHeld => ?_)
    clear hK K
    refine norm_ (a' := ?_) ?_ ?_
    rotate_left
    · show Act.put _ (some 15) _ = _
      simp only [Act.put, List.setIfInBounds_toArray, List.set_cons_zero, List.set_cons_succ, i64_w, i32_w]
      rfl
    refine pure_ (i := 6) (N := some 16) (v := ?_) (a' := ?_) #[true, true, true, true, true, true, true, true, true, false, false, false, false] rfl rfl (by kernel_rfl) (fun _ _ _ h => h) (Or.inl ⟨by rfl, ?_⟩) ?_ ?_
    rotate_left
    · intro w'
      go_simp
      with_reducible rfl
    rotate_left
    · simp only [Act.put, List.setIfInBounds_toArray, List.set_cons_zero, List.set_cons_succ, i64_w, i32_w]
      rfl
    refine one_ (i := 9) (N := some 19) #[true, true, true, true, true, true, true, true, true, true, false, false, false] rfl rfl (by kernel_rfl) (by decide) (fun K hK => ?_)
    refine goes_ Try.func56 (by kernel_rfl) rfl #[.slice A l.length c] (by rfl) rfl rfl (by (try simp only [List.map_toArray, List.map_cons, List.map_nil]); first | done | rfl) ?_
    refine (KR.out _ HB.out).mono ?_
    rintro e wa3 ⟨rfl, hb⟩
    refine ⟨_, rfl, ?_⟩
    have n0_ := Aside0.mk (blk_below HG.out hb)
    have n1_ := Aside0.mk (below_step HB.out hb)
    clear HG HB hb
    have HG := n0_
    have HB := n1_
    clear n0_ n1_
    refine hK.out _ _ ⟨(blk_cell HG.out 0).trans rfl, (blk_cell HG.out 1).trans rfl, (blk_cell HG.out 2).trans rfl⟩ (fun hHeld => ?_)
    clear hK K
    refine norm_ (a' := ?_) ?_ ?_
    rotate_left
    · show Act.put _ (some 19) _ = _
      simp only [Act.put, List.setIfInBounds_toArray, List.set_cons_zero, List.set_cons_succ, i64_w, i32_w]
      rfl
    refine pure_ (i := 10) (N := some 20) (v := ?_) (a' := ?_) #[true, true, true, true, true, true, true, true, true, true, true, false, false] rfl rfl (by kernel_rfl) (fun _ _ _ h => h) (Or.inl ⟨by rfl, ?_⟩) ?_ ?_
    rotate_left
    · intro w'
      go_simp
      with_reducible rfl
    rotate_left
    · simp only [Act.put, List.setIfInBounds_toArray, List.set_cons_zero, List.set_cons_succ, i64_w, i32_w]
      rfl
    refine one_ (i := 11) (N := some 21) #[true, true, true, true, true, true, true, true, true, true, true, true, false] rfl rfl (by kernel_rfl) (by decide) (fun K hK => ?_)
    refine goes_ Try.func53 (by kernel_rfl) rfl #[.string (⟨#[107]⟩ ++ X1 ++ X2 ++ X3 : ByteArray)] (by rfl) rfl rfl (by (try simp only [List.map_toArray, List.map_cons, List.map_nil]); first | done | rfl) ?_
    refine (KS.out _).mono ?_
    rintro e wa4 ⟨rfl, hb⟩
    refine ⟨_, rfl, ?_⟩
    have n0_ := Aside0.mk (blk_below HG.out hb)
    have n1_ := Aside0.mk (below_step HB.out hb)
    clear HG HB hb
    have HG := n0_
    have HB := n1_
    clear n0_ n1_
    refine hK.out _ _ ⟨(blk_cell HG.out 0).trans rfl, (blk_cell HG.out 1).trans rfl, (blk_cell HG.out 2).trans rfl⟩ (fun hHeld => ?_)
    clear hK K
    refine norm_ (a' := ?_) ?_ ?_
    rotate_left
    · show Act.put _ (some 21) _ = _
      simp only [Act.put, List.setIfInBounds_toArray, List.set_cons_zero, List.set_cons_succ, i64_w, i32_w]
      rfl
    refine pure_ (i := 12) (N := some 2) (v := ?_) (a' := ?_) #[true, true, true, true, true, true, true, true, true, true, true, true, true] rfl rfl (by kernel_rfl) (fun _ _ _ h => h) (Or.inl ⟨by rfl, ?_⟩) ?_ ?_
    rotate_left
    · intro w'
      go_simp
      with_reducible rfl
    rotate_left
    · simp only [Act.put, List.setIfInBounds_toArray, List.set_cons_zero, List.set_cons_succ, i64_w, i32_w]
      rfl
    refine done_ (by kernel_rfl) ?_
    go_wp2_with fail
    go_ret
    exact ⟨rfl, HB.out⟩
  · obtain rfl : V = 0 := by omega
    have dpos : decide (n > 0) = false := decide_eq_false hpos
    have dpos' : decide (0 < n) = false := decide_eq_false hpos
    clear hn hV hpos
    go_wp2_with fail
    have HG : Aside0 ((w.alloc (.cells #[.int .i64 n, .string p, .slice A l.length c] 25)).heap[w.heap.size]? = some (.cells #[.int .i64 n, .string p, .slice A l.length c] 25 (0, 0))) := ⟨new_ _ _ rfl⟩
    have HB := Aside0.mk ((Below.refl w.heap.size w).alloc (Nat.le_refl _) (.cells #[.int .i64 n, .string p, .slice A l.length c] 25))
    refine start_ (n := 13) (S := fun w' : World => w'.cell? ⟨w.heap.size, 0, none⟩ = some (.int .i64 n) ∧ w'.cell? ⟨w.heap.size, 1, none⟩ = some (.string p) ∧ w'.cell? ⟨w.heap.size, 2, none⟩ = some (.slice A l.length c)) (ds := []) #[false, false, false, false, false, false, false, false, false, false, false, false, false] (by kernel_rfl) rfl rfl ⟨(blk_cell HG.out 0).trans rfl, (blk_cell HG.out 1).trans rfl, (blk_cell HG.out 2).trans rfl⟩ (fun hHeld => ?_)
    replace HB := Aside0.mk (below_drew1 HB.out)
    replace HG := Aside0.mk (blk_drew HG.out)
    generalize World.drew _ = w1 at hHeld HG HB ⊢
    refine pure_ (i := 0) (N := some 10) (v := ?_) (a' := ?_) #[true, false, false, false, false, false, false, false, false, false, false, false, false] rfl rfl (by kernel_rfl) (fun _ _ _ h => h) (Or.inl ⟨by rfl, ?_⟩) ?_ ?_
    rotate_left
    · intro w'
      go_simp
      with_reducible rfl
    rotate_left
    · simp only [Act.put, List.setIfInBounds_toArray, List.set_cons_zero, List.set_cons_succ, i64_w, i32_w]
      rfl
    refine pure_ (i := 3) (N := some 13) (v := ?_) (a' := ?_) #[true, false, false, true, false, false, false, false, false, false, false, false, false] rfl rfl (by kernel_rfl) (fun _ _ _ h => h) (Or.inl ⟨by rfl, ?_⟩) ?_ ?_
    rotate_left
    · intro w'
      go_simp
      with_reducible rfl
    rotate_left
    · simp only [Act.put, List.setIfInBounds_toArray, List.set_cons_zero, List.set_cons_succ, i64_w, i32_w]
      rfl
    refine take_ (i := 4) (N := some 14) (v := ?_) (a' := ?_) #[true, false, false, true, true, false, false, false, false, false, false, false, false] rfl rfl (by kernel_rfl) (fun _ _ _ h => h) (Or.inl ⟨by rfl, ?_⟩) hHeld ?_ ?_
    rotate_left
    · rintro w' ⟨s0, s1, s2⟩
      go_simp
      with_reducible rfl
    rotate_left
    · simp only [Act.put, List.setIfInBounds_toArray, List.set_cons_zero, List.set_cons_succ, i64_w, i32_w]
      rfl
    refine pure_ (i := 7) (N := some 17) (v := ?_) (a' := ?_) #[true, false, false, true, true, false, false, true, false, false, false, false, false] rfl rfl (by kernel_rfl) (fun _ _ _ h => h) (Or.inl ⟨by rfl, ?_⟩) ?_ ?_
    rotate_left
    · intro w'
      go_simp
      with_reducible rfl
    rotate_left
    · simp only [Act.put, List.setIfInBounds_toArray, List.set_cons_zero, List.set_cons_succ, i64_w, i32_w]
      rfl
    refine take_ (i := 8) (N := some 18) (v := ?_) (a' := ?_) #[true, false, false, true, true, false, false, true, true, false, false, false, false] rfl rfl (by kernel_rfl) (fun _ _ _ h => h) (Or.inl ⟨by rfl, ?_⟩) hHeld ?_ ?_
    rotate_left
    · rintro w' ⟨s0, s1, s2⟩
      go_simp
      with_reducible rfl
    rotate_left
    · simp only [Act.put, List.setIfInBounds_toArray, List.set_cons_zero, List.set_cons_succ, i64_w, i32_w]
      rfl
    refine one_ (i := 1) (N := some 11) #[true, true, false, true, true, false, false, true, true, false, false, false, false] rfl rfl (by kernel_rfl) (by decide) (fun K hK => ?_)
    refine goes_ Try.func54 (by kernel_rfl) rfl #[.int .u64 0] (by rfl) rfl rfl (by (try simp only [List.map_toArray, List.map_cons, List.map_nil]); first | done | rfl) ?_
    refine (KN.out _).mono ?_
    rintro e wa1 ⟨rfl, hb⟩
    refine ⟨_, rfl, ?_⟩
    have n0_ := Aside0.mk (blk_below HG.out hb)
    have n1_ := Aside0.mk (below_step HB.out hb)
    clear HG HB hb
    have HG := n0_
    have HB := n1_
    clear n0_ n1_
    refine hK.out _ _ ⟨(blk_cell HG.out 0).trans rfl, (blk_cell HG.out 1).trans rfl, (blk_cell HG.out 2).trans rfl⟩ (fun hHeld => ?_)
    clear hK K
    refine norm_ (a' := ?_) ?_ ?_
    rotate_left
    · show Act.put _ (some 11) _ = _
      simp only [Act.put, List.setIfInBounds_toArray, List.set_cons_zero, List.set_cons_succ, i64_w, i32_w]
      rfl
    refine pure_ (i := 2) (N := some 12) (v := ?_) (a' := ?_) #[true, true, true, true, true, false, false, true, true, false, false, false, false] rfl rfl (by kernel_rfl) (fun _ _ _ h => h) (Or.inl ⟨by rfl, ?_⟩) ?_ ?_
    rotate_left
    · intro w'
      go_simp
      with_reducible rfl
    rotate_left
    · simp only [Act.put, List.setIfInBounds_toArray, List.set_cons_zero, List.set_cons_succ, i64_w, i32_w]
      rfl
    refine one_ (i := 5) (N := some 15) #[true, true, true, true, true, true, false, true, true, false, false, false, false] rfl rfl (by kernel_rfl) (by decide) (fun K hK => ?_)
    refine goes_ Try.func55 (by kernel_rfl) rfl #[.string p] (by rfl) rfl rfl (by (try simp only [List.map_toArray, List.map_cons, List.map_nil]); first | done | rfl) ?_
    refine (KT.out _).mono ?_
    rintro e wa2 ⟨rfl, hb⟩
    refine ⟨_, rfl, ?_⟩
    have n0_ := Aside0.mk (blk_below HG.out hb)
    have n1_ := Aside0.mk (below_step HB.out hb)
    clear HG HB hb
    have HG := n0_
    have HB := n1_
    clear n0_ n1_
    refine hK.out _ _ ⟨(blk_cell HG.out 0).trans rfl, (blk_cell HG.out 1).trans rfl, (blk_cell HG.out 2).trans rfl⟩ (fun hHeld => ?_)
    clear hK K
    refine norm_ (a' := ?_) ?_ ?_
    rotate_left
    · show Act.put _ (some 15) _ = _
      simp only [Act.put, List.setIfInBounds_toArray, List.set_cons_zero, List.set_cons_succ, i64_w, i32_w]
      rfl
    refine pure_ (i := 6) (N := some 16) (v := ?_) (a' := ?_) #[true, true, true, true, true, true, true, true, true, false, false, false, false] rfl rfl (by kernel_rfl) (fun _ _ _ h => h) (Or.inl ⟨by rfl, ?_⟩) ?_ ?_
    rotate_left
    · intro w'
      go_simp
      with_reducible rfl
    rotate_left
    · simp only [Act.put, List.setIfInBounds_toArray, List.set_cons_zero, List.set_cons_succ, i64_w, i32_w]
      rfl
    refine one_ (i := 9) (N := some 19) #[true, true, true, true, true, true, true, true, true, true, false, false, false] rfl rfl (by kernel_rfl) (by decide) (fun K hK => ?_)
    refine goes_ Try.func56 (by kernel_rfl) rfl #[.slice A l.length c] (by rfl) rfl rfl (by (try simp only [List.map_toArray, List.map_cons, List.map_nil]); first | done | rfl) ?_
    refine (KR.out _ HB.out).mono ?_
    rintro e wa3 ⟨rfl, hb⟩
    refine ⟨_, rfl, ?_⟩
    have n0_ := Aside0.mk (blk_below HG.out hb)
    have n1_ := Aside0.mk (below_step HB.out hb)
    clear HG HB hb
    have HG := n0_
    have HB := n1_
    clear n0_ n1_
    refine hK.out _ _ ⟨(blk_cell HG.out 0).trans rfl, (blk_cell HG.out 1).trans rfl, (blk_cell HG.out 2).trans rfl⟩ (fun hHeld => ?_)
    clear hK K
    refine norm_ (a' := ?_) ?_ ?_
    rotate_left
    · show Act.put _ (some 19) _ = _
      simp only [Act.put, List.setIfInBounds_toArray, List.set_cons_zero, List.set_cons_succ, i64_w, i32_w]
      rfl
    refine pure_ (i := 10) (N := some 20) (v := ?_) (a' := ?_) #[true, true, true, true, true, true, true, true, true, true, true, false, false] rfl rfl (by kernel_rfl) (fun _ _ _ h => h) (Or.inl ⟨by rfl, ?_⟩) ?_ ?_
    rotate_left
    · intro w'
      go_simp
      with_reducible rfl
    rotate_left
    · simp only [Act.put, List.setIfInBounds_toArray, List.set_cons_zero, List.set_cons_succ, i64_w, i32_w]
      rfl
    refine one_ (i := 11) (N := some 21) #[true, true, true, true, true, true, true, true, true, true, true, true, false] rfl rfl (by kernel_rfl) (by decide) (fun K hK => ?_)
    refine goes_ Try.func53 (by kernel_rfl) rfl #[.string (⟨#[107]⟩ ++ X1 ++ X2 ++ X3 : ByteArray)] (by rfl) rfl rfl (by (try simp only [List.map_toArray, List.map_cons, List.map_nil]); first | done | rfl) ?_
    refine (KS.out _).mono ?_
    rintro e wa4 ⟨rfl, hb⟩
    refine ⟨_, rfl, ?_⟩
    have n0_ := Aside0.mk (blk_below HG.out hb)
    have n1_ := Aside0.mk (below_step HB.out hb)
    clear HG HB hb
    have HG := n0_
    have HB := n1_
    clear n0_ n1_
    refine hK.out _ _ ⟨(blk_cell HG.out 0).trans rfl, (blk_cell HG.out 1).trans rfl, (blk_cell HG.out 2).trans rfl⟩ (fun hHeld => ?_)
    clear hK K
    refine norm_ (a' := ?_) ?_ ?_
    rotate_left
    · show Act.put _ (some 21) _ = _
      simp only [Act.put, List.setIfInBounds_toArray, List.set_cons_zero, List.set_cons_succ, i64_w, i32_w]
      rfl
    refine pure_ (i := 12) (N := some 2) (v := ?_) (a' := ?_) #[true, true, true, true, true, true, true, true, true, true, true, true, true] rfl rfl (by kernel_rfl) (fun _ _ _ h => h) (Or.inl ⟨by rfl, ?_⟩) ?_ ?_
    rotate_left
    · intro w'
      go_simp
      with_reducible rfl
    rotate_left
    · simp only [Act.put, List.setIfInBounds_toArray, List.set_cons_zero, List.set_cons_succ, i64_w, i32_w]
      rfl
    refine done_ (by kernel_rfl) ?_
    go_wp2_with fail
    go_ret
    exact ⟨rfl, HB.out⟩

end Go.Proofs.Ytiknkkkfkifahaa.Sa
end
section
/-
  cut.Flush walked. By an AI agent.
-/
namespace Go.Proofs.Ytiknkkkfkifahaa.Sa
open Go.Proofs.Ytiknkkkfkifahaa.Sm
open Go.RowKit Go.Proofs.YtiknkkkfkifahaaW.PrintWords Go.Proofs.YtiknkkkfkifahaaW.PrintLast Go.Proofs.YtiknkkkfkifahaaW.PrintMore
set_option linter.unusedVariables false
set_option linter.unusedSimpArgs false

/-- Two results, the first a struct in a block. -/
theorem results_row2s {P : Program} {fn : Func} {a b : Tmp} {t : TypeId} (hr : fn.results = #[.cell a t, .tmp b]) {tmps : Array Value} {W : World} {g : Nat} (ha : tmps.getD a undef = .pointer (some ⟨g, 0, none⟩)) {ty : TypeId} {cs : Array Value} {fr : Nat × Nat} (hg : W.heap[g]? = some (.cells cs ty fr)) {d : TypeDesc}
    (hu : P.underlying t = some d) (hd : (match d with | .struct _ | .array _ _ => true | _ => false) = true) (hi : (P.info? t).map (·.size) = some cs.size) {v : Value} (hb : tmps.getD b undef = v) : (results fn tmps).run P W = .ok (.tuple #[.agg cs, v]) W := by
  have h := run_loadVar_row (P := P) W g ty t cs fr _ hg hu hd hi
  rw [Array.getD_eq_getD_getElem?] at ha hb
  unfold results
  rw [hr]
  simp [ha, asAddr, h, hb]
/-- a row of texts of the call's own, in block g -/
def SN (w : World) (base g cap : Nat) (l : List ByteArray) : Prop :=
  base ≤ g ∧ l.length ≤ cap ∧ ∃ cur, w.heap[g]? = some (.cells cur 9 (0, 0)) ∧ ∀ (j : Nat) (x : ByteArray), l[j]? = some x → cur[j]? = some (Value.string x)
theorem SN.alloc {w : World} {base g cap : Nat} {l : List ByteArray} (h : SN w base g cap l) (o : Obj) : SN (w.alloc o) base g cap l := by
  obtain ⟨h1, h2, cur, h3, h4⟩ := h
  exact ⟨h1, h2, cur, blk_alloc h3 o, h4⟩
theorem SN.below {w w' : World} {base g cap : Nat} {l : List ByteArray} (h : SN w base g cap l) (hb : Below w.heap.size w w') : SN w' base g cap l := by
  obtain ⟨h1, h2, cur, h3, h4⟩ := h
  exact ⟨h1, h2, cur, blk_below h3 hb, h4⟩
theorem SN.drew {w : World} {base g cap : Nat} {l : List ByteArray} (h : SN w base g cap l) : SN w.drew base g cap l := h
theorem SN.setRow {w : World} {base g cap b : Nat} {l : List ByteArray} {cs : Array Value} {t : TypeId} {fr : Nat × Nat} (h : SN w base g cap l) (hb : w.heap[b]? = some (.cells cs t fr)) (ht : t ≠ 9) (cs' : Array Value) : SN (w.setRow b cs') base g cap l := by
  obtain ⟨h1, h2, cur, h3, h4⟩ := h
  refine ⟨h1, h2, cur, (setRow_other _ _ _ _ (fun e => ?_)).trans h3, h4⟩
  subst e
  rw [hb] at h3
  injection h3 with h3
  injection h3 with _ h3
  exact ht h3
theorem SN.C {w : World} {base g cap : Nat} {l : List ByteArray} (h : SN w base g cap l) (hl : l.length ≤ 9223372036854775807) : Kd.C Kd.string w (some ⟨g, 0, none⟩) l.length l := by
  obtain ⟨h1, h2, cur, h3, h4⟩ := h
  refine Kd.C_of_reads (d := ByteArray.empty) ⟨rfl, hl, fun _ => ⟨_, rfl, fun j hj => ?_⟩⟩
  rw [add_plain, blk_cell h3 j]
  refine h4 j _ ?_
  rw [List.getD_eq_getElem?_getD, List.getElem?_eq_getElem hj]
  rfl
theorem SN_of {w : World} {base base' : Nat} {v : Value} {l : List ByteArray} (h : Kd.R Kd.string 9 w base (fun _ => True) v l) (hb : base' ≤ base) (h0 : 0 < l.length) : ∃ g cap, v = .slice (some ⟨g, 0, none⟩) l.length cap ∧ SN w base' g cap l := by
  have ho := Kd.own_of_R h
  rcases ho.2 with ⟨_, h1⟩ | ⟨g, cap, cur, rfl, h1, h2, h3, _, _, h5⟩
  · omega
  · refine ⟨g, cap, rfl, Nat.le_trans hb h1, h3, cur, h2, fun j x hj => ?_⟩
    have hj' : j < l.length := (List.getElem?_eq_some_iff.1 hj).1
    have e : (encs Value.string l)[j]? = some (.string x) := by simp [encs, hj]
    rw [← h5, List.getElem?_take_of_lt (by omega)] at e
    simpa using e
set_option maxHeartbeats 8000000 in
set_option maxRecDepth 100000 in
theorem flush_c (n m : Int) (hm : wrap64 (n + 1) = m) (p : ByteArray) (A : Option Addr) (c : Nat) (l : List ByteArray) (w : World) (h0 : 0 < l.length) (hn : n ≤ 9223372036854775807) (hn0 : -9223372036854775808 ≤ n) (hr : Kd.C Kd.string w A l.length l) (hs : p.size + sizes l ≤ 140737488350000) (hlen : l.length * 16 ≤ 140737488355328) :
    Calls Try.prog 19 #[.agg #[.int .i64 n, .string p, .slice A l.length c]] w fun e w' => ∃ g gv cap, e = .returned (.tuple #[.agg #[.int .i64 m, .string (digB n p l), .slice none 0 0], .slice (some ⟨g, 0, none⟩) 1 1]) ∧ w.heap.size ≤ g ∧ w'.heap[g]? = some (.cells #[.int .i64 n, .string p, .slice (some ⟨gv, 0, none⟩) l.length cap] 25 (0, 0)) ∧ SN w' w.heap.size gv cap l ∧ Below w.heap.size w w' := by
  have hne : ((l.length : Int) == 0) = false := by rw [beq_eq_false_iff_ne]; omega
  have hl0 := Lib.hid h0
  have KC : Hid (∀ (w1 : World), Below w.heap.size w w1 → Calls Try.prog 48 #[.slice A l.length c] w1 fun e w' => ∃ v0_ : Value, e = .returned (v0_) ∧ Kd.R Kd.string 9 w' w1.heap.size (fun _ => True) v0_ l ∧ Below w1.heap.size w1 w') := Lib.hid (fun w1 hb => clone_c A c l w1 (Kd.C_below hr hb) hlen)
  have HSZ := Lib.hid hs
  have HN := Lib.hid hn
  have HM := Lib.hid hm
  have HN0 := Lib.hid hn0
  have HLN := Lib.hid hlen
  clear h0 hr hs hlen hn hn0 hm
  go_enter Try.func19, Try.ntmps19
  go_wp2_with fail
  have H1 : Aside0 (((w.alloc (.cells #[.int .i64 n, .string p, .slice A l.length c] 24)).alloc (.cells #[.int .i64 0, .string ⟨#[]⟩, .slice none 0 0] 24)).heap[w.heap.size]? = some (.cells #[.int .i64 n, .string p, .slice A l.length c] 24 (0, 0))) := ⟨blk_alloc (new_ _ _ rfl) _⟩
  have H2 : Aside0 (((w.alloc (.cells #[.int .i64 n, .string p, .slice A l.length c] 24)).alloc (.cells #[.int .i64 0, .string ⟨#[]⟩, .slice none 0 0] 24)).heap[w.heap.size + 1]? = some (.cells #[.int .i64 0, .string ⟨#[]⟩, .slice none 0 0] 24 (0, 0))) := ⟨new_ _ _ (by simp)⟩
  have HB : Aside0 (Below w.heap.size w ((w.alloc (.cells #[.int .i64 n, .string p, .slice A l.length c] 24)).alloc (.cells #[.int .i64 0, .string ⟨#[]⟩, .slice none 0 0] 24))) := ⟨((Below.refl w.heap.size w).alloc (Nat.le_refl _) _).alloc (by simp) _⟩
  refine start_ (n := 10) (S := fun w' : World => w'.cell? ⟨w.heap.size, 0, none⟩ = some (.int .i64 n) ∧ w'.cell? ⟨w.heap.size, 1, none⟩ = some (.string p) ∧ w'.cell? ⟨w.heap.size, 2, none⟩ = some (.slice A l.length c)) (ds := [9]) #[false, false, false, false, false, false, false, false, false, false] (by kernel_rfl) rfl rfl ⟨(blk_cell H1.out 0).trans rfl, (blk_cell H1.out 1).trans rfl, (blk_cell H1.out 2).trans rfl⟩ (fun hHeld => ?_)
  replace HB := Aside0.mk (below_drew1 HB.out)
  replace H1 := Aside0.mk (blk_drew H1.out)
  replace H2 := Aside0.mk (blk_drew H2.out)
  generalize World.drew _ = w1 at hHeld H1 H2 HB ⊢
  have l2 : w.heap.size + 1 < w1.heap.size := (Array.getElem?_eq_some_iff.1 H2.out).1
  refine pure_ (i := 0) (N := some 10) (v := ?_) (a' := ?_) #[true, false, false, false, false, false, false, false, false, false] rfl rfl (by kernel_rfl) (fun _ _ _ h => h) (Or.inl ⟨by rfl, ?_⟩) ?_ ?_
  rotate_left
  · intro w'
    go_simp
    with_reducible rfl
  rotate_left
  · simp only [Act.put, List.setIfInBounds_toArray, List.set_cons_zero, List.set_cons_succ, i64_w, i32_w]
    rfl
  refine take_ (i := 1) (N := some 11) (v := ?_) (a' := ?_) #[true, true, false, false, false, false, false, false, false, false] rfl rfl (by kernel_rfl) (fun _ _ _ h => h) (Or.inl ⟨by rfl, ?_⟩) hHeld ?_ ?_
  rotate_left
  · rintro w' ⟨s0, s1, s2⟩
    go_simp
    with_reducible rfl
  rotate_left
  · simp only [Act.put, List.setIfInBounds_toArray, List.set_cons_zero, List.set_cons_succ, i64_w, i32_w]
    rfl
  refine pure_ (i := 2) (N := some 12) (v := ?_) (a' := ?_) #[true, true, true, false, false, false, false, false, false, false] rfl rfl (by kernel_rfl) (fun _ _ _ h => h) (Or.inl ⟨by rfl, ?_⟩) ?_ ?_
  rotate_left
  · intro w'
    go_simp
    with_reducible rfl
  rotate_left
  · simp only [Act.put, List.setIfInBounds_toArray, List.set_cons_zero, List.set_cons_succ, i64_w, i32_w]
    rfl
  refine take_ (i := 3) (N := some 13) (v := ?_) (a' := ?_) #[true, true, true, true, false, false, false, false, false, false] rfl rfl (by kernel_rfl) (fun _ _ _ h => h) (Or.inl ⟨by rfl, ?_⟩) hHeld ?_ ?_
  rotate_left
  · rintro w' ⟨s0, s1, s2⟩
    go_simp
    with_reducible rfl
  rotate_left
  · simp only [Act.put, List.setIfInBounds_toArray, List.set_cons_zero, List.set_cons_succ, i64_w, i32_w]
    rfl
  refine pure_ (i := 4) (N := some 14) (v := ?_) (a' := ?_) #[true, true, true, true, true, false, false, false, false, false] rfl rfl (by kernel_rfl) (fun _ _ _ h => h) (Or.inl ⟨by rfl, ?_⟩) ?_ ?_
  rotate_left
  · intro w'
    go_simp
    with_reducible rfl
  rotate_left
  · simp only [Act.put, List.setIfInBounds_toArray, List.set_cons_zero, List.set_cons_succ, i64_w, i32_w]
    rfl
  refine take_ (i := 5) (N := some 15) (v := ?_) (a' := ?_) #[true, true, true, true, true, true, false, false, false, false] rfl rfl (by kernel_rfl) (fun _ _ _ h => h) (Or.inl ⟨by rfl, ?_⟩) hHeld ?_ ?_
  rotate_left
  · rintro w' ⟨s0, s1, s2⟩
    go_simp
    with_reducible rfl
  rotate_left
  · simp only [Act.put, List.setIfInBounds_toArray, List.set_cons_zero, List.set_cons_succ, i64_w, i32_w]
    rfl
  refine join_ (σ := Nat × Nat × Nat) 1 #[true, true, true, true, true, true, true, true, true, false] (fun s => [(16, (.slice (some ⟨s.2.1, 0, none⟩) l.length s.2.2)), (17, .agg #[.int .i64 n, .string p, (.slice (some ⟨s.2.1, 0, none⟩) l.length s.2.2)]), (4, .pointer (some ⟨s.1, 0, none⟩))]) (fun s w' => w.heap.size + 1 < s.1 ∧ w'.heap[s.1]? = some (.cells #[.int .i64 0, .string ⟨#[]⟩, .slice none 0 0] 25 (0, 0)) ∧ w'.heap[w.heap.size]? = some (.cells #[.int .i64 n, .string p, .slice A l.length c] 24 (0, 0)) ∧ w'.heap[w.heap.size + 1]? = some (.cells #[.int .i64 0, .string ⟨#[]⟩, .slice none 0 0] 24 (0, 0)) ∧ SN w' w.heap.size s.2.1 s.2.2 l ∧ Below w.heap.size w w') ?_ (fun hcont => ?_)
  rotate_left
  refine two_ (i := 6) (j := 8) (Ni := some 16) (Nj := some 4) #[true, true, true, true, true, true, true, false, false, false] #[true, true, true, true, true, true, false, false, true, false] rfl rfl rfl rfl (by kernel_rfl) (by decide) (by decide) (fun K hK => ?_) (fun K hK => ?_)
  · refine goes_ Try.func48 (by kernel_rfl) rfl #[.slice A l.length c] (by rfl) rfl rfl (by (try simp only [List.map_toArray, List.map_cons, List.map_nil]); first | done | rfl) ?_
    refine (KC.out _ HB.out).mono ?_
    rintro e w2 ⟨v, rfl, hR, hb⟩
    obtain ⟨gv, cap, rfl, hsn⟩ := SN_of (base' := w.heap.size) hR (Below.size HB.out) hl0.out
    refine ⟨_, rfl, ?_⟩
    have J1 := blk_below H1.out hb
    have J2 := blk_below H2.out hb
    have JB := below_step HB.out hb
    have l3 : w.heap.size + 1 < w2.heap.size := (Array.getElem?_eq_some_iff.1 J2).1
    refine hK.out _ _ ⟨(blk_cell J1 0).trans rfl, (blk_cell J1 1).trans rfl, (blk_cell J1 2).trans rfl⟩ (fun hHeld => ?_)
    clear hK K
    refine norm_ (a' := ?_) ?_ ?_
    rotate_left
    · show Act.put _ (some 16) _ = _
      simp only [Act.put, List.setIfInBounds_toArray, List.set_cons_zero, List.set_cons_succ, i64_w, i32_w]
      rfl
    refine pure_ (i := 7) (N := some 17) (v := ?_) (a' := ?_) #[true, true, true, true, true, true, true, true, false, false] rfl rfl (by kernel_rfl) (fun _ _ _ h => h) (Or.inl ⟨by rfl, ?_⟩) ?_ ?_
    rotate_left
    · intro w'
      go_simp
      with_reducible rfl
    rotate_left
    · simp only [Act.put, List.setIfInBounds_toArray, List.set_cons_zero, List.set_cons_succ, i64_w, i32_w]
      rfl
    refine one_ (i := 8) (N := some 4) #[true, true, true, true, true, true, true, true, true, false] rfl rfl (by kernel_rfl) (by decide) (fun K hK => ?_)
    refine value_ (v := ?_) (w1 := ?_) (by rfl) rfl ?_ ?_
    rotate_left
    rotate_left
    · go_simp
      first | rfl | (constructor <;> rfl)
    refine hK.out _ _ ⟨(blk_cell (blk_alloc J1 _) 0).trans rfl, (blk_cell (blk_alloc J1 _) 1).trans rfl, (blk_cell (blk_alloc J1 _) 2).trans rfl⟩ (fun hHeld => ?_)
    have hc := hcont (w2.heap.size, gv, cap) _ ⟨l3, new_ _ _ rfl, blk_alloc J1 _, blk_alloc J2 _, hsn.alloc _, JB.alloc JB.size _⟩
    refine norm_ ?_ hc
    simp only [putAll, Act.put, List.setIfInBounds_toArray, List.set_cons_zero, List.set_cons_succ, i64_w, i32_w]
    try rfl
  · refine value_ (v := ?_) (w1 := ?_) (by rfl) rfl ?_ ?_
    rotate_left
    rotate_left
    · go_simp
      first | rfl | (constructor <;> rfl)
    refine hK.out _ _ ⟨(blk_cell (blk_alloc H1.out _) 0).trans rfl, (blk_cell (blk_alloc H1.out _) 1).trans rfl, (blk_cell (blk_alloc H1.out _) 2).trans rfl⟩ (fun hHeld => ?_)
    clear hK K
    refine norm_ (a' := ?_) ?_ ?_
    rotate_left
    · show Act.put _ (some 4) _ = _
      simp only [Act.put, List.setIfInBounds_toArray, List.set_cons_zero, List.set_cons_succ, i64_w, i32_w]
      rfl
    refine one_ (i := 6) (N := some 16) #[true, true, true, true, true, true, true, false, true, false] rfl rfl (by kernel_rfl) (by decide) (fun K hK => ?_)
    refine goes_ Try.func48 (by kernel_rfl) rfl #[.slice A l.length c] (by rfl) rfl rfl (by (try simp only [List.map_toArray, List.map_cons, List.map_nil]); first | done | rfl) ?_
    refine (KC.out _ (HB.out.alloc HB.out.size _)).mono ?_
    rintro e w2 ⟨v, rfl, hR, hb⟩
    obtain ⟨gv, cap, rfl, hsn⟩ := SN_of (base' := w.heap.size) hR (Below.size (HB.out.alloc HB.out.size _)) hl0.out
    refine ⟨_, rfl, ?_⟩
    have J1 := blk_below (blk_alloc H1.out _) hb
    refine hK.out _ _ ⟨(blk_cell J1 0).trans rfl, (blk_cell J1 1).trans rfl, (blk_cell J1 2).trans rfl⟩ (fun hHeld => ?_)
    clear hK K
    refine norm_ (a' := ?_) ?_ ?_
    rotate_left
    · show Act.put _ (some 16) _ = _
      simp only [Act.put, List.setIfInBounds_toArray, List.set_cons_zero, List.set_cons_succ, i64_w, i32_w]
      rfl
    refine pure_ (i := 7) (N := some 17) (v := ?_) (a' := ?_) #[true, true, true, true, true, true, true, true, true, false] rfl rfl (by kernel_rfl) (fun _ _ _ h => h) (Or.inl ⟨by rfl, ?_⟩) ?_ ?_
    rotate_left
    · intro w'
      go_simp
      with_reducible rfl
    rotate_left
    · simp only [Act.put, List.setIfInBounds_toArray, List.set_cons_zero, List.set_cons_succ, i64_w, i32_w]
      rfl
    have hc := hcont (w1.heap.size, gv, cap) _ ⟨l2, blk_below (new_ _ _ rfl) hb, J1, blk_below (blk_alloc H2.out _) hb, hsn, below_step (HB.out.alloc HB.out.size _) hb⟩
    refine norm_ ?_ hc
    simp only [putAll, Act.put, List.setIfInBounds_toArray, List.set_cons_zero, List.set_cons_succ, i64_w, i32_w]
    try rfl
  clear hHeld H1 H2 HB l2
  rintro ⟨b, gv, cap⟩ w2 ⟨lb, HZ, H1, H2, HS, HB⟩
  simp only at lb HZ HS
  replace HZ := Aside0.mk HZ
  replace H1 := Aside0.mk H1
  replace H2 := Aside0.mk H2
  replace HS := Aside0.mk HS
  replace HB := Aside0.mk HB
  refine norm_ (a' := ?_) ?_ ?_
  rotate_left
  · simp only [putAll, Act.put, List.setIfInBounds_toArray, List.set_cons_zero, List.set_cons_succ, i64_w, i32_w]
    rfl
  refine last_ (i := 9) (N := none) #[true, true, true, true, true, true, true, true, true, true] rfl rfl (by kernel_rfl) (by decide) (fun K hK => ?_)
  refine skip_ (w1 := w2.setRow b #[.int .i64 n, .string p, .slice (some ⟨gv, 0, none⟩) l.length cap]) (by rfl) rfl ?_ ?_
  · exact exec_store_row _ rfl rfl rfl HZ.out (by kernel_rfl) rfl (by simp [Value.oneCell'])
  refine hK.out _ _ ?_
  clear hK K
  refine done_ (by kernel_rfl) ?_
  go_wp2_with fail
  have lw := HB.out.size
  have K1 : Aside0 ((w2.setRow b #[.int .i64 n, .string p, .slice (some ⟨gv, 0, none⟩) l.length cap]).heap[w.heap.size]? = some (.cells #[.int .i64 n, .string p, .slice A l.length c] 24 (0, 0))) := ⟨(setRow_other _ _ _ _ (by omega)).trans H1.out⟩
  have K2 : Aside0 ((w2.setRow b #[.int .i64 n, .string p, .slice (some ⟨gv, 0, none⟩) l.length cap]).heap[w.heap.size + 1]? = some (.cells #[.int .i64 0, .string ⟨#[]⟩, .slice none 0 0] 24 (0, 0))) := ⟨(setRow_other _ _ _ _ (by omega)).trans H2.out⟩
  have KB : Aside0 ((w2.setRow b #[.int .i64 n, .string p, .slice (some ⟨gv, 0, none⟩) l.length cap]).heap[b]? = some (.cells #[.int .i64 n, .string p, .slice (some ⟨gv, 0, none⟩) l.length cap] 25 (0, 0))) := ⟨setRow_heap _ _ _ _ _ _ HZ.out⟩
  have KS := Aside0.mk (HS.out.setRow HZ.out (by decide) #[.int .i64 n, .string p, .slice (some ⟨gv, 0, none⟩) l.length cap])
  have KL := Aside0.mk (below_setRow HB.out (g := b) (by omega) #[.int .i64 n, .string p, .slice (some ⟨gv, 0, none⟩) l.length cap])
  have KD : Hid (∀ w1 : World, SN w1 w.heap.size gv cap l → Calls Try.prog 23 #[.agg #[.int .i64 n, .string p, .slice (some ⟨gv, 0, none⟩) l.length cap]] w1 fun e w' => e = .returned (.string (digB n p l)) ∧ Below w1.heap.size w1 w') := Lib.hid (fun w1 h => digest_c n p (some ⟨gv, 0, none⟩) cap l w1 (by have := HN.out; omega) (h.C (by have := HLN.out; omega)) HSZ.out)
  have hwn : IntKind.i64.wrap (n + 1) = m := (i64_w _).trans HM.out
  clear H1 H2 HZ HS HB
  refine start_ (n := 10) (S := fun w' : World => w'.cell? ⟨w.heap.size, 0, none⟩ = some (.int .i64 n) ∧ w'.heap[b]? = some (.cells #[.int .i64 n, .string p, .slice (some ⟨gv, 0, none⟩) l.length cap] 25 (0, 0))) (ds := []) #[false, false, false, false, false, false, false, false, false, false] (by kernel_rfl) rfl rfl ⟨(blk_cell K1.out 0).trans rfl, KB.out⟩ (fun hHeld => ?_)
  replace K1 := Aside0.mk (blk_drew K1.out)
  replace K2 := Aside0.mk (blk_drew K2.out)
  replace KB := Aside0.mk (blk_drew KB.out)
  replace KS := Aside0.mk KS.out.drew
  replace KL := Aside0.mk (below_drew1 KL.out)
  generalize World.drew _ = w3 at hHeld K1 K2 KB KS KL ⊢
  have l2 : w.heap.size + 1 < w3.heap.size := (Array.getElem?_eq_some_iff.1 K2.out).1 |> fun h => by have := (Array.getElem?_eq_some_iff.1 KB.out).1; omega
  refine pure_ (i := 0) (N := some 18) (v := ?_) (a' := ?_) #[true, false, false, false, false, false, false, false, false, false] rfl rfl (by kernel_rfl) (fun _ _ _ h => h) (Or.inl ⟨by rfl, ?_⟩) ?_ ?_
  rotate_left
  · intro w'
    go_simp
    with_reducible rfl
  rotate_left
  · simp only [Act.put, List.setIfInBounds_toArray, List.set_cons_zero, List.set_cons_succ, i64_w, i32_w]
    rfl
  refine take_ (i := 1) (N := some 19) (v := ?_) (a' := ?_) #[true, true, false, false, false, false, false, false, false, false] rfl rfl (by kernel_rfl) (fun _ _ _ h => h) (Or.inl ⟨by rfl, ?_⟩) hHeld ?_ ?_
  rotate_left
  · rintro w' ⟨s0, s1⟩
    go_simp
    with_reducible rfl
  rotate_left
  · simp only [Act.put, List.setIfInBounds_toArray, List.set_cons_zero, List.set_cons_succ, i64_w, i32_w]
    rfl
  refine pure_ (i := 2) (N := some 20) (v := ?_) (a' := ?_) #[true, true, true, false, false, false, false, false, false, false] rfl rfl (by kernel_rfl) (fun _ _ _ h => h) (Or.inl ⟨by rfl, ?_⟩) ?_ ?_
  rotate_left
  · intro w'
    go_simp
    with_reducible rfl
  rotate_left
  · simp only [Act.put, List.setIfInBounds_toArray, List.set_cons_zero, List.set_cons_succ, i64_w, i32_w]
    rfl
  refine take_ (i := 3) (N := some 21) (v := .agg #[.int .i64 n, .string p, .slice (some ⟨gv, 0, none⟩) l.length cap]) (a' := ?_) #[true, true, true, true, false, false, false, false, false, false] rfl rfl (by kernel_rfl) (fun _ _ _ h => h) (Or.inl ⟨by rfl, ?_⟩) hHeld ?_ ?_
  · rintro w' ⟨s0, s1⟩
    exact exec_load_row _ rfl rfl s1 Try.underlying25 rfl (by kernel_rfl)
  rotate_left
  · simp only [Act.put, List.setIfInBounds_toArray, List.set_cons_zero, List.set_cons_succ, i64_w, i32_w]
    rfl
  refine take_ (i := 6) (N := some 24) (v := .agg #[.int .i64 n, .string p, .slice (some ⟨gv, 0, none⟩) l.length cap]) (a' := ?_) #[true, true, true, true, false, false, true, false, false, false] rfl rfl (by kernel_rfl) (fun _ _ _ h => h) (Or.inl ⟨by rfl, ?_⟩) hHeld ?_ ?_
  · rintro w' ⟨s0, s1⟩
    exact exec_load_row _ rfl rfl s1 Try.underlying25 rfl (by kernel_rfl)
  rotate_left
  · simp only [Act.put, List.setIfInBounds_toArray, List.set_cons_zero, List.set_cons_succ, i64_w, i32_w]
    rfl
  refine join_ (σ := Nat) 1 #[true, true, true, true, true, true, true, true, true, false] (fun s => [(22, .string (digB n p l)), (23, .agg #[.int .i64 m, .string (digB n p l), .slice none 0 0]), (25, .slice (some ⟨s, 0, none⟩) 1 1)]) (fun s w' => w.heap.size + 1 < s ∧ w'.heap[s]? = some (.cells #[.int .i64 n, .string p, .slice (some ⟨gv, 0, none⟩) l.length cap] 25 (0, 0)) ∧ w'.heap[w.heap.size + 1]? = some (.cells #[.int .i64 m, .string (digB n p l), .slice none 0 0] 24 (0, 0)) ∧ SN w' w.heap.size gv cap l ∧ Below w.heap.size w w') ?_ (fun hcont => ?_)
  rotate_left
  refine two_ (i := 4) (j := 7) (Ni := some 22) (Nj := some 25) #[true, true, true, true, true, false, true, false, false, false] #[true, true, true, true, false, false, true, true, false, false] rfl rfl rfl rfl (by kernel_rfl) (by decide) (by decide) (fun K hK => ?_) (fun K hK => ?_)
  · refine goes_ Try.func23 (by kernel_rfl) rfl #[.agg #[.int .i64 n, .string p, .slice (some ⟨gv, 0, none⟩) l.length cap]] (by rfl) rfl rfl (by (try simp only [List.map_toArray, List.map_cons, List.map_nil]); first | done | rfl) ?_
    refine (KD.out _ KS.out).mono ?_
    rintro e w4 ⟨rfl, hb⟩
    refine ⟨_, rfl, ?_⟩
    have J1 := blk_below K1.out hb
    have J2 := blk_below K2.out hb
    have J3 := blk_below KB.out hb
    have JS := KS.out.below hb
    have JB := below_step KL.out hb
    have l4 := (Array.getElem?_eq_some_iff.1 J3).1
    have l3 : w.heap.size + 1 < w4.heap.size := by omega
    refine hK.out _ _ ⟨(blk_cell J1 0).trans rfl, J3⟩ (fun hHeld => ?_)
    clear hK K
    refine norm_ (a' := ?_) ?_ ?_
    rotate_left
    · show Act.put _ (some 22) _ = _
      simp only [Act.put, List.setIfInBounds_toArray, List.set_cons_zero, List.set_cons_succ, i64_w, i32_w]
      rfl
    refine pure_ (i := 5) (N := some 23) (v := ?_) (a' := ?_) #[true, true, true, true, true, true, true, false, false, false] rfl rfl (by kernel_rfl) (fun _ _ _ h => h) (Or.inl ⟨by rfl, ?_⟩) ?_ ?_
    rotate_left
    · intro w'
      go_simp
      with_reducible rfl
    rotate_left
    · simp only [Act.put, List.setIfInBounds_toArray, List.set_cons_zero, List.set_cons_succ, i64_w, i32_w]
      rfl
    refine two_ (i := 7) (j := 8) (Ni := some 25) (Nj := none) #[true, true, true, true, true, true, true, true, false, false] #[true, true, true, true, true, true, true, false, true, false] rfl rfl rfl rfl (by kernel_rfl) (by decide) (by decide) (fun K hK => ?_) (fun K hK => ?_)
    · refine value_ (v := ?_) (w1 := ?_) (by rfl) rfl ?_ ?_
      rotate_left
      rotate_left
      · go_simp
        first | rfl | (constructor <;> rfl)
      refine hK.out _ _ ⟨(blk_cell (blk_alloc J1 _) 0).trans rfl, blk_alloc J3 _⟩ (fun hHeld => ?_)
      clear hK K
      refine norm_ (a' := ?_) ?_ ?_
      rotate_left
      · show Act.put _ (some 25) _ = _
        simp only [Act.put, List.setIfInBounds_toArray, List.set_cons_zero, List.set_cons_succ, i64_w, i32_w]
        rfl
      refine one_ (i := 8) (N := none) #[true, true, true, true, true, true, true, true, true, false] rfl rfl (by kernel_rfl) (by decide) (fun K hK => ?_)
      refine skip_ (w1 := (w4.alloc (.cells #[.int .i64 n, .string p, .slice (some ⟨gv, 0, none⟩) l.length cap] 25)).setRow (w.heap.size + 1) #[.int .i64 m, .string (digB n p l), .slice none 0 0]) (by rfl) rfl ?_ ?_
      · exact exec_store_row _ rfl rfl rfl (blk_alloc J2 _) (by kernel_rfl) rfl (by simp [Value.oneCell'])
      refine hK.out _ _ ⟨(blk_cell ((setRow_other _ _ _ _ (by omega)).trans (blk_alloc J1 _)) 0).trans rfl, (setRow_other _ _ _ _ (by omega)).trans (blk_alloc J3 _)⟩ (fun hHeld => ?_)
      have hc := hcont w4.heap.size _ ⟨l3, (setRow_other _ _ _ _ (by omega)).trans (new_ _ _ rfl), setRow_heap _ _ _ _ _ _ (blk_alloc J2 _), (JS.alloc _).setRow (blk_alloc J2 _) (by decide) _, below_setRow (JB.alloc JB.size _) (by omega) _⟩
      refine norm_ ?_ hc
      simp only [putAll, Act.put, List.setIfInBounds_toArray, List.set_cons_zero, List.set_cons_succ, i64_w, i32_w]
      try rfl
    · refine skip_ (w1 := w4.setRow (w.heap.size + 1) #[.int .i64 m, .string (digB n p l), .slice none 0 0]) (by rfl) rfl ?_ ?_
      · exact exec_store_row _ rfl rfl rfl J2 (by kernel_rfl) rfl (by simp [Value.oneCell'])
      have M1 : (w4.setRow (w.heap.size + 1) #[.int .i64 m, .string (digB n p l), .slice none 0 0]).heap[w.heap.size]? = _ := (setRow_other _ _ _ _ (by omega)).trans J1
      have M2 : (w4.setRow (w.heap.size + 1) #[.int .i64 m, .string (digB n p l), .slice none 0 0]).heap[w.heap.size + 1]? = _ := setRow_heap _ _ _ _ _ _ J2
      have M3 : (w4.setRow (w.heap.size + 1) #[.int .i64 m, .string (digB n p l), .slice none 0 0]).heap[b]? = _ := (setRow_other _ _ _ _ (by omega)).trans J3
      have M4 := (Array.getElem?_eq_some_iff.1 M3).1
      have M5 := JS.setRow J2 (by decide) #[.int .i64 m, .string (digB n p l), .slice none 0 0]
      have M6 := below_setRow JB (g := w.heap.size + 1) (by omega) #[.int .i64 m, .string (digB n p l), .slice none 0 0]
      refine hK.out _ _ ⟨(blk_cell M1 0).trans rfl, M3⟩ (fun hHeld => ?_)
      clear hK K
      refine one_ (i := 7) (N := some 25) #[true, true, true, true, true, true, true, true, true, false] rfl rfl (by kernel_rfl) (by decide) (fun K hK => ?_)
      refine value_ (v := ?_) (w1 := ?_) (by rfl) rfl ?_ ?_
      rotate_left
      rotate_left
      · go_simp
        first | rfl | (constructor <;> rfl)
      refine hK.out _ _ ⟨(blk_cell (blk_alloc M1 _) 0).trans rfl, blk_alloc M3 _⟩ (fun hHeld => ?_)
      have hc := hcont w4.heap.size _ ⟨l3, new_ (w4.setRow (w.heap.size + 1) #[.int .i64 m, .string (digB n p l), .slice none 0 0]) _ (by simp [World.setRow]), blk_alloc M2 _, M5.alloc _, M6.alloc M6.size _⟩
      refine norm_ ?_ hc
      simp only [putAll, Act.put, List.setIfInBounds_toArray, List.set_cons_zero, List.set_cons_succ, i64_w, i32_w]
      try rfl
  · refine value_ (v := ?_) (w1 := ?_) (by rfl) rfl ?_ ?_
    rotate_left
    rotate_left
    · go_simp
      first | rfl | (constructor <;> rfl)
    refine hK.out _ _ ⟨(blk_cell (blk_alloc K1.out _) 0).trans rfl, blk_alloc KB.out _⟩ (fun hHeld => ?_)
    clear hK K
    refine norm_ (a' := ?_) ?_ ?_
    rotate_left
    · show Act.put _ (some 25) _ = _
      simp only [Act.put, List.setIfInBounds_toArray, List.set_cons_zero, List.set_cons_succ, i64_w, i32_w]
      rfl
    refine one_ (i := 4) (N := some 22) #[true, true, true, true, true, false, true, true, false, false] rfl rfl (by kernel_rfl) (by decide) (fun K hK => ?_)
    refine goes_ Try.func23 (by kernel_rfl) rfl #[.agg #[.int .i64 n, .string p, .slice (some ⟨gv, 0, none⟩) l.length cap]] (by rfl) rfl rfl (by (try simp only [List.map_toArray, List.map_cons, List.map_nil]); first | done | rfl) ?_
    refine (KD.out _ (KS.out.alloc _)).mono ?_
    rintro e w4 ⟨rfl, hb⟩
    refine ⟨_, rfl, ?_⟩
    have J1 := blk_below (blk_alloc K1.out _) hb
    have J2 := blk_below (blk_alloc K2.out _) hb
    have J3 := blk_below (blk_alloc KB.out _) hb
    refine hK.out _ _ ⟨(blk_cell J1 0).trans rfl, J3⟩ (fun hHeld => ?_)
    clear hK K
    refine norm_ (a' := ?_) ?_ ?_
    rotate_left
    · show Act.put _ (some 22) _ = _
      simp only [Act.put, List.setIfInBounds_toArray, List.set_cons_zero, List.set_cons_succ, i64_w, i32_w]
      rfl
    refine pure_ (i := 5) (N := some 23) (v := ?_) (a' := ?_) #[true, true, true, true, true, true, true, true, false, false] rfl rfl (by kernel_rfl) (fun _ _ _ h => h) (Or.inl ⟨by rfl, ?_⟩) ?_ ?_
    rotate_left
    · intro w'
      go_simp
      with_reducible rfl
    rotate_left
    · simp only [Act.put, List.setIfInBounds_toArray, List.set_cons_zero, List.set_cons_succ, i64_w, i32_w]
      rfl
    refine one_ (i := 8) (N := none) #[true, true, true, true, true, true, true, true, true, false] rfl rfl (by kernel_rfl) (by decide) (fun K hK => ?_)
    refine skip_ (w1 := w4.setRow (w.heap.size + 1) #[.int .i64 m, .string (digB n p l), .slice none 0 0]) (by rfl) rfl ?_ ?_
    · exact exec_store_row _ rfl rfl rfl J2 (by kernel_rfl) rfl (by simp [Value.oneCell'])
    refine hK.out _ _ ⟨(blk_cell ((setRow_other _ _ _ _ (by omega)).trans J1) 0).trans rfl, (setRow_other _ _ _ _ (by omega)).trans J3⟩ (fun hHeld => ?_)
    have hc := hcont w3.heap.size _ ⟨l2, (setRow_other _ _ _ _ (by omega)).trans (blk_below (new_ _ _ rfl) hb), setRow_heap _ _ _ _ _ _ J2, ((KS.out.alloc _).below hb).setRow J2 (by decide) _, below_setRow (below_step (KL.out.alloc KL.out.size _) hb) (by omega) _⟩
    refine norm_ ?_ hc
    simp only [putAll, Act.put, List.setIfInBounds_toArray, List.set_cons_zero, List.set_cons_succ, i64_w, i32_w]
    try rfl
  clear hHeld K1 K2 KB KS KL l2
  rintro gs w5 ⟨lgs, HZ, H2, HS, HB⟩
  replace HZ := Aside0.mk HZ
  replace H2 := Aside0.mk H2
  replace HS := Aside0.mk HS
  replace HB := Aside0.mk HB
  refine norm_ (a' := ?_) ?_ ?_
  rotate_left
  · simp only [putAll, Act.put, List.setIfInBounds_toArray, List.set_cons_zero, List.set_cons_succ, i64_w, i32_w]
    rfl
  refine pure_ (i := 9) (N := some 3) (v := ?_) (a' := ?_) #[true, true, true, true, true, true, true, true, true, true] rfl rfl (by kernel_rfl) (fun _ _ _ h => h) (Or.inl ⟨by rfl, ?_⟩) ?_ ?_
  rotate_left
  · intro w'
    go_simp
    with_reducible rfl
  rotate_left
  · simp only [Act.put, List.setIfInBounds_toArray, List.set_cons_zero, List.set_cons_succ, i64_w, i32_w]
    rfl
  refine done_ (by kernel_rfl) ?_
  go_wp2_with fail
  refine bodyPost_ret (v := .tuple #[.agg #[.int .i64 m, .string (digB n p l), .slice none 0 0], .slice (some ⟨gs, 0, none⟩) 1 1]) (results_row2s Try.results19 rfl H2.out Try.underlying24 rfl (by kernel_rfl) rfl) rfl ⟨gs, gv, cap, rfl, by omega, HZ.out, HS.out, HB.out⟩
end Go.Proofs.Ytiknkkkfkifahaa.Sa
end
section
/-
  cut.Flush and the reference's walked, where nothing waits. By an AI agent.
-/
namespace Go.Proofs.Ytiknkkkfkifahaa.Sa
open Go.Proofs.Ytiknkkkfkifahaa.Sm
open Go.RowKit Go.Proofs.YtiknkkkfkifahaaW.PrintWords Go.Proofs.YtiknkkkfkifahaaW.PrintLast Go.Proofs.YtiknkkkfkifahaaW.PrintMore
set_option linter.unusedVariables false
set_option linter.unusedSimpArgs false

set_option maxHeartbeats 8000000 in
set_option maxRecDepth 100000 in
theorem flush_none (n : Int) (p : ByteArray) (A : Option Addr) (c : Nat) (w : World) :
    Calls Try.prog 19 #[.agg #[.int .i64 n, .string p, .slice A 0 c]] w fun e w' => e = .returned (.tuple #[.agg #[.int .i64 n, .string p, .slice A 0 c], .slice none 0 0]) ∧ Below w.heap.size w w' := by
  go_enter Try.func19, Try.ntmps19
  go_wp2_with (first | (refine wpList_load_row rfl 24 _ rfl w.heap.size rfl 24 _ (0, 0) _ (blk_alloc (new_ _ _ rfl) _) Try.underlying24 rfl (by kernel_rfl) ?_) | (refine Go.wpList_store_row rfl 24 _ _ rfl (w.heap.size + 1) #[.int .i64 n, .string p, .slice A 0 c] rfl rfl 24 _ (new_ _ _ (by simp)) (by kernel_rfl) rfl (by simp [Value.oneCell']) ?_))
  refine bodyPost_ret (v := .tuple #[.agg #[.int .i64 n, .string p, .slice A 0 c], .slice none 0 0]) (results_row2s Try.results19 rfl (setRow_heap _ _ _ _ _ _ (new_ _ _ (by simp))) Try.underlying24 rfl (by kernel_rfl) rfl) rfl ⟨rfl, below_setRow (((Below.refl _ _).alloc (Nat.le_refl _) _).alloc (by simp) _) (by omega) _⟩
set_option maxHeartbeats 8000000 in
set_option maxRecDepth 100000 in
theorem rflush_none (n : Int) (p : ByteArray) (A : Option Addr) (c : Nat) (w : World) :
    Calls Try.prog 20 #[.agg #[.int .i64 n, .string p, .slice A 0 c]] w fun e w' => e = .returned (.tuple #[.agg #[.int .i64 n, .string p, .slice A 0 c], .slice none 0 0]) ∧ Below w.heap.size w w' := by
  go_enter Try.func20, Try.ntmps20
  go_wp2_with (first | (refine wpList_load_row rfl 24 _ rfl w.heap.size rfl 24 _ (0, 0) _ (blk_alloc (new_ _ _ rfl) _) Try.underlying24 rfl (by kernel_rfl) ?_) | (refine Go.wpList_store_row rfl 24 _ _ rfl (w.heap.size + 1) #[.int .i64 n, .string p, .slice A 0 c] rfl rfl 24 _ (new_ _ _ (by simp)) (by kernel_rfl) rfl (by simp [Value.oneCell']) ?_))
  refine bodyPost_ret (v := .tuple #[.agg #[.int .i64 n, .string p, .slice A 0 c], .slice none 0 0]) (results_row2s Try.results20 rfl (setRow_heap _ _ _ _ _ _ (new_ _ _ (by simp))) Try.underlying24 rfl (by kernel_rfl) rfl) rfl ⟨rfl, below_setRow (((Below.refl _ _).alloc (Nat.le_refl _) _).alloc (by simp) _) (by omega) _⟩
end Go.Proofs.Ytiknkkkfkifahaa.Sa
end
section
/-
  The reference's Flush walked, where something waits. By an AI agent.
-/
namespace Go.Proofs.Ytiknkkkfkifahaa.Sa
open Go.Proofs.Ytiknkkkfkifahaa.Sm
open Go.RowKit Go.Proofs.YtiknkkkfkifahaaW.PrintWords Go.Proofs.YtiknkkkfkifahaaW.PrintLast Go.Proofs.YtiknkkkfkifahaaW.PrintMore
set_option linter.unusedVariables false
set_option linter.unusedSimpArgs false

set_option maxHeartbeats 8000000 in
set_option maxRecDepth 100000 in
theorem rflush_c (n m : Int) (hm : wrap64 (n + 1) = m) (p : ByteArray) (A : Option Addr) (c : Nat) (l : List ByteArray) (w : World) (h0 : 0 < l.length) (hn : n ≤ 9223372036854775807) (hn0 : -9223372036854775808 ≤ n) (hr : Kd.C Kd.string w A l.length l) (hs : p.size + sizes l ≤ 140737488350000) :
    Calls Try.prog 20 #[.agg #[.int .i64 n, .string p, .slice A l.length c]] w fun e w' => ∃ g, e = .returned (.tuple #[.agg #[.int .i64 m, .string (digB n p l), .slice none 0 0], .slice (some ⟨g, 0, none⟩) 1 1]) ∧ w.heap.size ≤ g ∧ w'.heap[g]? = some (.cells #[.int .i64 n, .string p, .slice A l.length c] 25 (0, 0)) ∧ Below w.heap.size w w' := by
  have hne : ((l.length : Int) == 0) = false := by rw [beq_eq_false_iff_ne]; omega
  have KD : Hid (∀ w1 : World, Below w.heap.size w w1 → Calls Try.prog 24 #[.agg #[.int .i64 n, .string p, .slice A l.length c]] w1 fun e w' => e = .returned (.string (digB n p l)) ∧ Below w1.heap.size w1 w') := Lib.hid (fun w1 hb => rdigest_c n p A c l w1 (by omega) (Kd.C_below hr hb) hs)
  have hwn : IntKind.i64.wrap (n + 1) = m := (i64_w _).trans hm
  clear h0 hr hs hn hn0
  go_enter Try.func20, Try.ntmps20
  obtain ⟨b, hb0⟩ : ∃ b, b = w.heap.size + 1 + 1 := ⟨_, rfl⟩
  have lb : w.heap.size + 1 < b := by omega
  have NZ : (((w.alloc (.cells #[.int .i64 n, .string p, .slice A l.length c] 24)).alloc (.cells #[.int .i64 0, .string ⟨#[]⟩, .slice none 0 0] 24)).alloc (.cells #[.int .i64 0, .string ⟨#[]⟩, .slice none 0 0] 25)).heap[b]? = some (.cells #[.int .i64 0, .string ⟨#[]⟩, .slice none 0 0] 25 (0, 0)) := new_ _ _ (by rw [hb0]; simp)
  go_wp2_with (refine Go.wpList_store_row rfl 25 _ _ rfl b #[.int .i64 n, .string p, .slice A l.length c] (by rw [hb0]; rfl) rfl 25 _ NZ (by kernel_rfl) rfl (by simp [Value.oneCell']) ?_)
  try rw [← hb0]
  have K1 : Aside0 (((((w.alloc (.cells #[.int .i64 n, .string p, .slice A l.length c] 24)).alloc (.cells #[.int .i64 0, .string ⟨#[]⟩, .slice none 0 0] 24)).alloc (.cells #[.int .i64 0, .string ⟨#[]⟩, .slice none 0 0] 25)).setRow b #[.int .i64 n, .string p, .slice A l.length c]).heap[w.heap.size]? = some (.cells #[.int .i64 n, .string p, .slice A l.length c] 24 (0, 0))) := ⟨(setRow_other _ _ _ _ (by omega)).trans (blk_alloc (blk_alloc (new_ _ _ rfl) _) _)⟩
  have K2 : Aside0 (((((w.alloc (.cells #[.int .i64 n, .string p, .slice A l.length c] 24)).alloc (.cells #[.int .i64 0, .string ⟨#[]⟩, .slice none 0 0] 24)).alloc (.cells #[.int .i64 0, .string ⟨#[]⟩, .slice none 0 0] 25)).setRow b #[.int .i64 n, .string p, .slice A l.length c]).heap[w.heap.size + 1]? = some (.cells #[.int .i64 0, .string ⟨#[]⟩, .slice none 0 0] 24 (0, 0))) := ⟨(setRow_other _ _ _ _ (by omega)).trans (blk_alloc (new_ _ _ (by simp)) _)⟩
  have KB : Aside0 (((((w.alloc (.cells #[.int .i64 n, .string p, .slice A l.length c] 24)).alloc (.cells #[.int .i64 0, .string ⟨#[]⟩, .slice none 0 0] 24)).alloc (.cells #[.int .i64 0, .string ⟨#[]⟩, .slice none 0 0] 25)).setRow b #[.int .i64 n, .string p, .slice A l.length c]).heap[b]? = some (.cells #[.int .i64 n, .string p, .slice A l.length c] 25 (0, 0))) := ⟨setRow_heap _ _ _ _ _ _ NZ⟩
  have KL : Aside0 (Below w.heap.size w ((((w.alloc (.cells #[.int .i64 n, .string p, .slice A l.length c] 24)).alloc (.cells #[.int .i64 0, .string ⟨#[]⟩, .slice none 0 0] 24)).alloc (.cells #[.int .i64 0, .string ⟨#[]⟩, .slice none 0 0] 25)).setRow b #[.int .i64 n, .string p, .slice A l.length c])) := ⟨below_setRow ((((Below.refl _ _).alloc (Nat.le_refl _) _).alloc (by simp) _).alloc (by simp; omega) _) (by omega) _⟩
  clear NZ hb0
  refine start_ (n := 10) (S := fun w' : World => w'.cell? ⟨w.heap.size, 0, none⟩ = some (.int .i64 n) ∧ w'.heap[b]? = some (.cells #[.int .i64 n, .string p, .slice A l.length c] 25 (0, 0))) (ds := []) #[false, false, false, false, false, false, false, false, false, false] (by kernel_rfl) rfl rfl ⟨(blk_cell K1.out 0).trans rfl, KB.out⟩ (fun hHeld => ?_)
  replace K1 := Aside0.mk (blk_drew K1.out)
  replace K2 := Aside0.mk (blk_drew K2.out)
  replace KB := Aside0.mk (blk_drew KB.out)
  replace := Aside0.mk KL.out.drew
  replace KL := Aside0.mk (below_drew1 KL.out)
  generalize World.drew _ = w3 at hHeld K1 K2 KB KL ⊢
  have l2 : w.heap.size + 1 < w3.heap.size := (Array.getElem?_eq_some_iff.1 K2.out).1 |> fun h => by have := (Array.getElem?_eq_some_iff.1 KB.out).1; omega
  refine pure_ (i := 0) (N := some 17) (v := ?_) (a' := ?_) #[true, false, false, false, false, false, false, false, false, false] rfl rfl (by kernel_rfl) (fun _ _ _ h => h) (Or.inl ⟨by rfl, ?_⟩) ?_ ?_
  rotate_left
  · intro w'
    go_simp
    with_reducible rfl
  rotate_left
  · simp only [Act.put, List.setIfInBounds_toArray, List.set_cons_zero, List.set_cons_succ, i64_w, i32_w]
    rfl
  refine take_ (i := 1) (N := some 18) (v := ?_) (a' := ?_) #[true, true, false, false, false, false, false, false, false, false] rfl rfl (by kernel_rfl) (fun _ _ _ h => h) (Or.inl ⟨by rfl, ?_⟩) hHeld ?_ ?_
  rotate_left
  · rintro w' ⟨s0, s1⟩
    go_simp
    with_reducible rfl
  rotate_left
  · simp only [Act.put, List.setIfInBounds_toArray, List.set_cons_zero, List.set_cons_succ, i64_w, i32_w]
    rfl
  refine pure_ (i := 2) (N := some 19) (v := ?_) (a' := ?_) #[true, true, true, false, false, false, false, false, false, false] rfl rfl (by kernel_rfl) (fun _ _ _ h => h) (Or.inl ⟨by rfl, ?_⟩) ?_ ?_
  rotate_left
  · intro w'
    go_simp
    with_reducible rfl
  rotate_left
  · simp only [Act.put, List.setIfInBounds_toArray, List.set_cons_zero, List.set_cons_succ, i64_w, i32_w]
    rfl
  refine take_ (i := 3) (N := some 20) (v := .agg #[.int .i64 n, .string p, .slice A l.length c]) (a' := ?_) #[true, true, true, true, false, false, false, false, false, false] rfl rfl (by kernel_rfl) (fun _ _ _ h => h) (Or.inl ⟨by rfl, ?_⟩) hHeld ?_ ?_
  · rintro w' ⟨s0, s1⟩
    exact exec_load_row _ rfl rfl s1 Try.underlying25 rfl (by kernel_rfl)
  rotate_left
  · simp only [Act.put, List.setIfInBounds_toArray, List.set_cons_zero, List.set_cons_succ, i64_w, i32_w]
    rfl
  refine take_ (i := 6) (N := some 23) (v := .agg #[.int .i64 n, .string p, .slice A l.length c]) (a' := ?_) #[true, true, true, true, false, false, true, false, false, false] rfl rfl (by kernel_rfl) (fun _ _ _ h => h) (Or.inl ⟨by rfl, ?_⟩) hHeld ?_ ?_
  · rintro w' ⟨s0, s1⟩
    exact exec_load_row _ rfl rfl s1 Try.underlying25 rfl (by kernel_rfl)
  rotate_left
  · simp only [Act.put, List.setIfInBounds_toArray, List.set_cons_zero, List.set_cons_succ, i64_w, i32_w]
    rfl
  refine join_ (σ := Nat) 1 #[true, true, true, true, true, true, true, true, true, false] (fun s => [(21, .string (digB n p l)), (22, .agg #[.int .i64 m, .string (digB n p l), .slice none 0 0]), (24, .slice (some ⟨s, 0, none⟩) 1 1)]) (fun s w' => w.heap.size + 1 < s ∧ w'.heap[s]? = some (.cells #[.int .i64 n, .string p, .slice A l.length c] 25 (0, 0)) ∧ w'.heap[w.heap.size + 1]? = some (.cells #[.int .i64 m, .string (digB n p l), .slice none 0 0] 24 (0, 0)) ∧ Below w.heap.size w w') ?_ (fun hcont => ?_)
  rotate_left
  refine two_ (i := 4) (j := 7) (Ni := some 21) (Nj := some 24) #[true, true, true, true, true, false, true, false, false, false] #[true, true, true, true, false, false, true, true, false, false] rfl rfl rfl rfl (by kernel_rfl) (by decide) (by decide) (fun K hK => ?_) (fun K hK => ?_)
  · refine goes_ Try.func24 (by kernel_rfl) rfl #[.agg #[.int .i64 n, .string p, .slice A l.length c]] (by rfl) rfl rfl (by (try simp only [List.map_toArray, List.map_cons, List.map_nil]); first | done | rfl) ?_
    refine (KD.out _ KL.out).mono ?_
    rintro e w4 ⟨rfl, hb⟩
    refine ⟨_, rfl, ?_⟩
    have J1 := blk_below K1.out hb
    have J2 := blk_below K2.out hb
    have J3 := blk_below KB.out hb
    
    have JB := below_step KL.out hb
    have l4 := (Array.getElem?_eq_some_iff.1 J3).1
    have l3 : w.heap.size + 1 < w4.heap.size := by omega
    refine hK.out _ _ ⟨(blk_cell J1 0).trans rfl, J3⟩ (fun hHeld => ?_)
    clear hK K
    refine norm_ (a' := ?_) ?_ ?_
    rotate_left
    · show Act.put _ (some 21) _ = _
      simp only [Act.put, List.setIfInBounds_toArray, List.set_cons_zero, List.set_cons_succ, i64_w, i32_w]
      rfl
    refine pure_ (i := 5) (N := some 22) (v := ?_) (a' := ?_) #[true, true, true, true, true, true, true, false, false, false] rfl rfl (by kernel_rfl) (fun _ _ _ h => h) (Or.inl ⟨by rfl, ?_⟩) ?_ ?_
    rotate_left
    · intro w'
      go_simp
      with_reducible rfl
    rotate_left
    · simp only [Act.put, List.setIfInBounds_toArray, List.set_cons_zero, List.set_cons_succ, i64_w, i32_w]
      rfl
    refine two_ (i := 7) (j := 8) (Ni := some 24) (Nj := none) #[true, true, true, true, true, true, true, true, false, false] #[true, true, true, true, true, true, true, false, true, false] rfl rfl rfl rfl (by kernel_rfl) (by decide) (by decide) (fun K hK => ?_) (fun K hK => ?_)
    · refine value_ (v := ?_) (w1 := ?_) (by rfl) rfl ?_ ?_
      rotate_left
      rotate_left
      · go_simp
        first | rfl | (constructor <;> rfl)
      refine hK.out _ _ ⟨(blk_cell (blk_alloc J1 _) 0).trans rfl, blk_alloc J3 _⟩ (fun hHeld => ?_)
      clear hK K
      refine norm_ (a' := ?_) ?_ ?_
      rotate_left
      · show Act.put _ (some 24) _ = _
        simp only [Act.put, List.setIfInBounds_toArray, List.set_cons_zero, List.set_cons_succ, i64_w, i32_w]
        rfl
      refine one_ (i := 8) (N := none) #[true, true, true, true, true, true, true, true, true, false] rfl rfl (by kernel_rfl) (by decide) (fun K hK => ?_)
      refine skip_ (w1 := (w4.alloc (.cells #[.int .i64 n, .string p, .slice A l.length c] 25)).setRow (w.heap.size + 1) #[.int .i64 m, .string (digB n p l), .slice none 0 0]) (by rfl) rfl ?_ ?_
      · exact exec_store_row _ rfl rfl rfl (blk_alloc J2 _) (by kernel_rfl) rfl (by simp [Value.oneCell'])
      refine hK.out _ _ ⟨(blk_cell ((setRow_other _ _ _ _ (by omega)).trans (blk_alloc J1 _)) 0).trans rfl, (setRow_other _ _ _ _ (by omega)).trans (blk_alloc J3 _)⟩ (fun hHeld => ?_)
      have hc := hcont w4.heap.size _ ⟨l3, (setRow_other _ _ _ _ (by omega)).trans (new_ _ _ rfl), setRow_heap _ _ _ _ _ _ (blk_alloc J2 _), below_setRow (JB.alloc JB.size _) (by omega) _⟩
      refine norm_ ?_ hc
      simp only [putAll, Act.put, List.setIfInBounds_toArray, List.set_cons_zero, List.set_cons_succ, i64_w, i32_w]
      try rfl
    · refine skip_ (w1 := w4.setRow (w.heap.size + 1) #[.int .i64 m, .string (digB n p l), .slice none 0 0]) (by rfl) rfl ?_ ?_
      · exact exec_store_row _ rfl rfl rfl J2 (by kernel_rfl) rfl (by simp [Value.oneCell'])
      have M1 : (w4.setRow (w.heap.size + 1) #[.int .i64 m, .string (digB n p l), .slice none 0 0]).heap[w.heap.size]? = _ := (setRow_other _ _ _ _ (by omega)).trans J1
      have M2 : (w4.setRow (w.heap.size + 1) #[.int .i64 m, .string (digB n p l), .slice none 0 0]).heap[w.heap.size + 1]? = _ := setRow_heap _ _ _ _ _ _ J2
      have M3 : (w4.setRow (w.heap.size + 1) #[.int .i64 m, .string (digB n p l), .slice none 0 0]).heap[b]? = _ := (setRow_other _ _ _ _ (by omega)).trans J3
      have M4 := (Array.getElem?_eq_some_iff.1 M3).1
      
      have M6 := below_setRow JB (g := w.heap.size + 1) (by omega) #[.int .i64 m, .string (digB n p l), .slice none 0 0]
      refine hK.out _ _ ⟨(blk_cell M1 0).trans rfl, M3⟩ (fun hHeld => ?_)
      clear hK K
      refine one_ (i := 7) (N := some 24) #[true, true, true, true, true, true, true, true, true, false] rfl rfl (by kernel_rfl) (by decide) (fun K hK => ?_)
      refine value_ (v := ?_) (w1 := ?_) (by rfl) rfl ?_ ?_
      rotate_left
      rotate_left
      · go_simp
        first | rfl | (constructor <;> rfl)
      refine hK.out _ _ ⟨(blk_cell (blk_alloc M1 _) 0).trans rfl, blk_alloc M3 _⟩ (fun hHeld => ?_)
      have hc := hcont w4.heap.size _ ⟨l3, new_ (w4.setRow (w.heap.size + 1) #[.int .i64 m, .string (digB n p l), .slice none 0 0]) _ (by simp [World.setRow]), blk_alloc M2 _, M6.alloc M6.size _⟩
      refine norm_ ?_ hc
      simp only [putAll, Act.put, List.setIfInBounds_toArray, List.set_cons_zero, List.set_cons_succ, i64_w, i32_w]
      try rfl
  · refine value_ (v := ?_) (w1 := ?_) (by rfl) rfl ?_ ?_
    rotate_left
    rotate_left
    · go_simp
      first | rfl | (constructor <;> rfl)
    refine hK.out _ _ ⟨(blk_cell (blk_alloc K1.out _) 0).trans rfl, blk_alloc KB.out _⟩ (fun hHeld => ?_)
    clear hK K
    refine norm_ (a' := ?_) ?_ ?_
    rotate_left
    · show Act.put _ (some 24) _ = _
      simp only [Act.put, List.setIfInBounds_toArray, List.set_cons_zero, List.set_cons_succ, i64_w, i32_w]
      rfl
    refine one_ (i := 4) (N := some 21) #[true, true, true, true, true, false, true, true, false, false] rfl rfl (by kernel_rfl) (by decide) (fun K hK => ?_)
    refine goes_ Try.func24 (by kernel_rfl) rfl #[.agg #[.int .i64 n, .string p, .slice A l.length c]] (by rfl) rfl rfl (by (try simp only [List.map_toArray, List.map_cons, List.map_nil]); first | done | rfl) ?_
    refine (KD.out _ (KL.out.alloc KL.out.size _)).mono ?_
    rintro e w4 ⟨rfl, hb⟩
    refine ⟨_, rfl, ?_⟩
    have J1 := blk_below (blk_alloc K1.out _) hb
    have J2 := blk_below (blk_alloc K2.out _) hb
    have J3 := blk_below (blk_alloc KB.out _) hb
    refine hK.out _ _ ⟨(blk_cell J1 0).trans rfl, J3⟩ (fun hHeld => ?_)
    clear hK K
    refine norm_ (a' := ?_) ?_ ?_
    rotate_left
    · show Act.put _ (some 21) _ = _
      simp only [Act.put, List.setIfInBounds_toArray, List.set_cons_zero, List.set_cons_succ, i64_w, i32_w]
      rfl
    refine pure_ (i := 5) (N := some 22) (v := ?_) (a' := ?_) #[true, true, true, true, true, true, true, true, false, false] rfl rfl (by kernel_rfl) (fun _ _ _ h => h) (Or.inl ⟨by rfl, ?_⟩) ?_ ?_
    rotate_left
    · intro w'
      go_simp
      with_reducible rfl
    rotate_left
    · simp only [Act.put, List.setIfInBounds_toArray, List.set_cons_zero, List.set_cons_succ, i64_w, i32_w]
      rfl
    refine one_ (i := 8) (N := none) #[true, true, true, true, true, true, true, true, true, false] rfl rfl (by kernel_rfl) (by decide) (fun K hK => ?_)
    refine skip_ (w1 := w4.setRow (w.heap.size + 1) #[.int .i64 m, .string (digB n p l), .slice none 0 0]) (by rfl) rfl ?_ ?_
    · exact exec_store_row _ rfl rfl rfl J2 (by kernel_rfl) rfl (by simp [Value.oneCell'])
    refine hK.out _ _ ⟨(blk_cell ((setRow_other _ _ _ _ (by omega)).trans J1) 0).trans rfl, (setRow_other _ _ _ _ (by omega)).trans J3⟩ (fun hHeld => ?_)
    have hc := hcont w3.heap.size _ ⟨l2, (setRow_other _ _ _ _ (by omega)).trans (blk_below (new_ _ _ rfl) hb), setRow_heap _ _ _ _ _ _ J2, below_setRow (below_step (KL.out.alloc KL.out.size _) hb) (by omega) _⟩
    refine norm_ ?_ hc
    simp only [putAll, Act.put, List.setIfInBounds_toArray, List.set_cons_zero, List.set_cons_succ, i64_w, i32_w]
    try rfl
  clear hHeld K1 K2 KB KL l2
  rintro gs w5 ⟨lgs, HZ, H2, HB⟩
  replace HZ := Aside0.mk HZ
  replace H2 := Aside0.mk H2
  
  replace HB := Aside0.mk HB
  refine norm_ (a' := ?_) ?_ ?_
  rotate_left
  · simp only [putAll, Act.put, List.setIfInBounds_toArray, List.set_cons_zero, List.set_cons_succ, i64_w, i32_w]
    rfl
  refine pure_ (i := 9) (N := some 3) (v := ?_) (a' := ?_) #[true, true, true, true, true, true, true, true, true, true] rfl rfl (by kernel_rfl) (fun _ _ _ h => h) (Or.inl ⟨by rfl, ?_⟩) ?_ ?_
  rotate_left
  · intro w'
    go_simp
    with_reducible rfl
  rotate_left
  · simp only [Act.put, List.setIfInBounds_toArray, List.set_cons_zero, List.set_cons_succ, i64_w, i32_w]
    rfl
  refine done_ (by kernel_rfl) ?_
  go_wp2_with fail
  refine bodyPost_ret (v := .tuple #[.agg #[.int .i64 m, .string (digB n p l), .slice none 0 0], .slice (some ⟨gs, 0, none⟩) 1 1]) (results_row2s Try.results20 rfl H2.out Try.underlying24 rfl (by kernel_rfl) rfl) rfl ⟨gs, rfl, by omega, HZ.out, HB.out⟩
end Go.Proofs.Ytiknkkkfkifahaa.Sa
end
section
/-
  cut.Chained walked: are blocks chained? By an AI agent.
-/
namespace Go.Proofs.Ytiknkkkfkifahaa.Sa
open Go.Proofs.Ytiknkkkfkifahaa.Sm
open Go.RowKit Go.Proofs.YtiknkkkfkifahaaW.PrintWords Go.Proofs.YtiknkkkfkifahaaW.PrintLast Go.Proofs.YtiknkkkfkifahaaW.PrintMore
set_option linter.unusedVariables false
set_option linter.unusedSimpArgs false

abbrev Bk := Int × ByteArray × List ByteArray
def kB : Kd Bk := Kd.pair (Kd.int .i64) (Kd.pair Kd.string (Kd.slice 9 Kd.string))
theorem kB_open {w : World} {x : Bk} {cs : List Value} (h : kB.K w x cs) : ∃ A c, cs = [.int .i64 x.1, .string x.2.1, .slice A x.2.2.length c] ∧ x.2.2.length ≤ c ∧ Kd.C Kd.string w A x.2.2.length x.2.2 := by
  obtain ⟨_, _, rfl, rfl, ⟨_, _, rfl, rfl, ⟨A2, c2, rfl, l2, g2⟩⟩⟩ := h
  exact ⟨A2, c2, rfl, l2, g2⟩
def chB : Int → ByteArray → List Bk → Bool
  | _, _, [] => true
  | num, prev, x :: l => if x.1 = num ∧ x.2.1.toList = prev.toList then chB (wrap64 (num + 1)) (digB x.1 x.2.1 x.2.2) l else false
instance : Inhabited Bk := ⟨(0, ByteArray.empty, [])⟩
theorem elem_at {w : World} {A : Option Addr} {l : List Bk} (h : kB.C w A l.length l) (k : Nat) (hk : k < l.length) : ∃ g off x A2 c2, A = some ⟨g, off, none⟩ ∧ l[k]? = some x ∧ w.cell? ⟨g, off + k * 3, none⟩ = some (.int .i64 x.1) ∧ w.cell? ⟨g, off + k * 3 + 1, none⟩ = some (.string x.2.1) ∧ w.cell? ⟨g, off + k * 3 + 2, none⟩ = some (.slice A2 x.2.2.length c2) ∧ Kd.C Kd.string w A2 x.2.2.length x.2.2 := by
  have h0 := Kd.C_get h default 0 (by omega) (by omega)
  obtain ⟨ad, cs0, rfl, _, hK0, hc0⟩ := h0
  obtain ⟨A0, c0, rfl, _, _⟩ := kB_open hK0
  obtain ⟨g, off, sp⟩ := ad
  have hsp : sp = none := by
    have h := hc0 0 _ rfl
    have e : ((0 : Int).toNat * kB.sz + 0) = 0 := rfl
    rw [e] at h
    simp only [Addr.add, if_pos] at h
    unfold World.cell? at h
    cases sp with
    | none => rfl
    | some s => revert h; split <;> simp
  subst hsp
  obtain ⟨ad, cs, he, _, hK, hc⟩ := Kd.C_get h default (k : Int) (by omega) (by omega)
  cases he
  obtain ⟨A2, c2, rfl, _, hC⟩ := kB_open hK
  have e : ∀ j, ((k : Int).toNat * kB.sz + j) = k * 3 + j := fun j => rfl
  have q0 := hc 0 _ rfl
  have q1 := hc 1 _ rfl
  have q2 := hc 2 _ rfl
  rw [e, addp] at q0 q1 q2
  have hx : l[k]? = some (l.getD ((k : Int).toNat) default) := by
    rw [Int.toNat_natCast, List.getD_eq_getElem?_getD, List.getElem?_eq_getElem hk]
    rfl
  refine ⟨g, off, _, A2, c2, rfl, hx, ?_, ?_, ?_, hC⟩
  · exact q0
  · rw [Nat.add_assoc]; exact q1
  · rw [Nat.add_assoc]; exact q2
theorem chB_at {l : List Bk} {k : Nat} {x : Bk} (h : l[k]? = some x) (nu : Int) (pr : ByteArray) : chB nu pr (l.drop k) = if x.1 = nu ∧ x.2.1.toList = pr.toList then chB (wrap64 (nu + 1)) (digB x.1 x.2.1 x.2.2) (l.drop (k + 1)) else false := by
  obtain ⟨hk, e⟩ := List.getElem?_eq_some_iff.1 h
  rw [List.drop_eq_getElem_cons hk, e, chB]
theorem meas3 {n k : Nat} (h : k < n) : n - (intOf (Value.int .i64 ((k + 1 : Nat) : Int))).toNat < n - (intOf (Value.int .i64 (k : Int))).toNat := by
  show n - ((k + 1 : Nat) : Int).toNat < n - (k : Int).toNat
  omega
set_option maxHeartbeats 8000000 in
set_option maxRecDepth 100000 in
theorem chained_c (A : Option Addr) (c : Nat) (l : List Bk) (num : Int) (prev : ByteArray) (w : World) (hr : kB.C w A l.length l) (hlen : l.length ≤ 9223372036854775806) (hb : ∀ x ∈ l, x.1 ≤ 9223372036854775807 ∧ x.2.1.size + sizes x.2.2 ≤ 140737488350000) :
    Calls Try.prog 30 #[.slice A l.length c, .int .i64 num, .string prev] w fun e w' => e = .returned (.bool (chB num prev l)) ∧ Below w.heap.size w w' := by
  have HR := Lib.hid hr
  have HL := Lib.hid hlen
  have HBD := Lib.hid hb
  clear hr hlen hb
  go_enter Try.func30, Try.ntmps30
  go_wp2_with fail
  refine wp_label_jumps 0 (fun a' w' => ∃ (k : Nat) (nu : Int) (pr : ByteArray) (u8 u9 u10 u11 u12 u13 u14 u15 u16 u17 u18 u19 u20 u21 u22 u23 u24 u25 u26 u27 u28 u29 u30 u31 u32 u33 u34 u35 u36 : Value), k ≤ l.length ∧ chB nu pr (l.drop k) = chB num prev l ∧
    a' = { tmps := #[.slice A l.length c, .int .i64 nu, .string pr, undef, undef, undef, .bool false, .int .i64 (k : Int), u8, u9, u10, u11, u12, u13, u14, u15, u16, u17, u18, u19, u20, u21, u22, u23, u24, u25, u26, u27, u28, u29, u30, u31, u32, u33, u34, u35, u36], defers := [] } ∧ Below w.heap.size w w')
    (fun a' _ => l.length - (intOf (a'.tmps.getD 7 undef)).toNat) rfl ?pass ?first
  case first =>
    intro hrest
    go_wp2_with fail
    go_step3
    simp only [Exit.then]
    refine (by assumption : ∀ (a : Act) (w : World), Code.wp Try.prog _ _ a w → _ ) _ _ (hrest _ _ ?_)
    clear hrest
    exact ⟨0, num, prev, _, _, _, _, _, _, _, _, _, _, _, _, _, _, _, _, _, _, _, _, _, _, _, _, _, _, _, _, _, by omega, rfl, rfl, Below.refl _ _⟩
  case pass =>
    rintro a' w' ⟨k, nu, pr, u8, u9, u10, u11, u12, u13, u14, u15, u16, u17, u18, u19, u20, u21, u22, u23, u24, u25, u26, u27, u28, u29, u30, u31, u32, u33, u34, u35, u36, hk, hch, rfl, HB⟩
    have HCH := Lib.hid hch
    have HB' := Lib.hid HB
    clear hch
    by_cases hlt : k < l.length
    · have hne : ((k : Int) == (l.length : Int)) = false := by rw [beq_eq_false_iff_ne]; omega
      obtain ⟨g, off, x, A2, c2, hA, hx, c0, c1, cc2, hC⟩ := elem_at (Kd.C_below HR.out HB) k hlt
      subst hA
      have hxm := HBD.out x (List.mem_of_getElem? hx)
      have hat := chB_at hx nu pr
      have r0 : ∀ w' : World, (Instr.indexAt 29 (.slice (some ⟨g, off, none⟩) l.length c) (.int .i64 (k : Int))).run Try.prog w' = .ok (.pointer (some ⟨g, off + k * 3, none⟩)) w' := fun w' => by
        rw [run_indexAt_slice w' 29 ⟨g, off, none⟩ l.length c .i64 k (by kernel_rfl), if_pos ⟨by omega, by omega⟩]
        have hs : (sizeOf (Try.prog.elem 29)).run Try.prog w' = .ok 3 w' := by kernel_rfl
        rw [hs]
        simp [Result.andThen, addp]
      obtain ⟨xn, xp, xl⟩ := x
      simp only at c0 c1 cc2 hC hxm hat
      by_cases h1 : xn = nu
      · have d1 : (xn != nu) = false := by simp [h1]
        have d1' : (xn == nu) = true := by simp [h1]
        by_cases h2 : xp.toList = pr.toList
        · have d2 : (xp.toList != pr.toList) = false := by simp [h2]
          have d2' : (xp.toList == pr.toList) = true := by simp [h2]
          rw [if_pos ⟨h1, h2⟩] at hat
          have KD := Lib.hid (fun w1 (hb1 : Below w'.heap.size w' w1) => digest_c xn xp A2 c2 xl w1 hxm.1 (Kd.C_below hC hb1) hxm.2)
          have HAT := Lib.hid hat
          have hw : wrap64 ((k : Int) + 1) = ((k + 1 : Nat) : Int) := by rw [Go.IntWalk.wrap64_in _ (by have := HL.out; omega)]; omega
          clear hat hC hxm hx h1 h2 HB hk
          go_wp2_with fail
          refine (KD.out _ (Below.refl _ _)).mono ?_
          rintro e w2 ⟨rfl, hb2⟩
          have HB2 := Lib.hid (below_step HB'.out hb2)
          clear hb2 c0 c1 cc2
          go_wp2_with fail
          go_step3
          rw [hw]
          refine ⟨rfl, ⟨k + 1, wrap64 (nu + 1), digB xn xp xl, _, _, _, _, _, _, _, _, _, _, _, _, _, _, _, _, _, _, _, _, _, _, _, _, _, _, _, _, _, by omega, HAT.out.symm.trans HCH.out, rfl, HB2.out⟩, ?_⟩
          exact meas3 hlt
        · have d2 : (xp.toList != pr.toList) = true := by simp [h2]
          have d2' : (xp.toList == pr.toList) = false := by simp [h2]
          rw [if_neg (fun h => h2 h.2)] at hat
          have HAT := Lib.hid (hat.symm.trans HCH.out)
          clear hat hC hxm hx h1 h2 HB hk
          go_wp2_with fail
          simp only [Exit.jump]
          go_ret
          exact ⟨by rw [← HAT.out]; rfl, HB'.out⟩
      · have d1 : (xn != nu) = true := by simp [h1]
        have d1' : (xn == nu) = false := by simp [h1]
        rw [if_neg (fun h => h1 h.1)] at hat
        have HAT := Lib.hid (hat.symm.trans HCH.out)
        clear hat hC hxm hx h1 HB hk
        go_wp2_with fail
        simp only [Exit.jump]
        go_ret
        exact ⟨by rw [← HAT.out]; rfl, HB'.out⟩
    · obtain rfl : k = l.length := by omega
      have hne : ((l.length : Int) == (l.length : Int)) = true := by simp
      have HAT := HCH.out
      rw [List.drop_of_length_le (Nat.le_refl _)] at HAT
      have HAT := Lib.hid (show true = chB num prev l from HAT)
      clear HB hk
      go_wp2_with fail
      simp only [Exit.jump]
      go_ret
      exact ⟨by rw [← HAT.out]; rfl, HB'.out⟩
end Go.Proofs.Ytiknkkkfkifahaa.Sa
end
section
/-
  Both Flush, with what they hand back told by the blocks that it lies in. By an AI agent.
-/
namespace Go.Proofs.Ytiknkkkfkifahaa.Sa
open Go.Proofs.Ytiknkkkfkifahaa.Sm
open Go.RowKit Go.Proofs.YtiknkkkfkifahaaW.PrintWords Go.Proofs.YtiknkkkfkifahaaW.PrintLast Go.Proofs.YtiknkkkfkifahaaW.PrintMore
set_option linter.unusedVariables false
set_option linter.unusedSimpArgs false

abbrev kBl : Kd (Int × ByteArray × List ByteArray) := Kd.pair (Kd.int .i64) (Kd.pair Kd.string (Kd.slice 9 Kd.string))
theorem C_block {W : World} {g : Nat} {n : Int} {p : ByteArray} {A2 : Option Addr} {c2 : Nat} {l : List ByteArray} (h : W.heap[g]? = some (.cells #[.int .i64 n, .string p, .slice A2 l.length c2] 25 (0, 0))) (hl : l.length ≤ c2) (hC : Kd.C Kd.string W A2 l.length l) :
    kBl.C W (some ⟨g, 0, none⟩) 1 [(n, p, l)] := by
  refine ⟨rfl, by decide, fun _ => ⟨_, rfl, fun j x hj => ?_⟩⟩
  cases j with
  | succ j => simp at hj
  | zero =>
    have hx : x = (n, p, l) := by simpa using hj.symm
    subst hx
    refine ⟨[.int .i64 n, .string p, .slice A2 l.length c2], rfl, ⟨[.int .i64 n], [.string p, .slice A2 l.length c2], rfl, rfl, ⟨[.string p], [.slice A2 l.length c2], rfl, rfl, ⟨A2, c2, rfl, hl, hC⟩⟩⟩, fun i u hu => ?_⟩
    rw [add_plain, blk_cell h]
    simpa using hu
theorem V_after {α : Type} {d : Kd α} {e b : Nat} {w w' : World} {P P' : Nat → Prop} {v : Value} {xs : List α} (h : Kd.V d e w b P v xs) (hb : Below w.heap.size w w') (hp : ∀ k, P k → P' k) : Kd.V d e w' b P' v xs := by
  obtain ⟨A, c, rfl, hc, hF⟩ := h
  exact ⟨A, c, rfl, hc, Kd.F_mono (Kd.F_below hF hb) hp⟩
theorem SN.F {w : World} {base g cap : Nat} {l : List ByteArray} (h : SN w base g cap l) (hl : l.length ≤ 9223372036854775807) : Kd.F Kd.string w (fun k => base ≤ k) (some ⟨g, 0, none⟩) l.length l := by
  intro W' hW
  obtain ⟨h1, h2, cur, h3, h4⟩ := h
  have hlt : g < w.heap.size := (Array.getElem?_eq_some_iff.1 h3).1
  exact SN.C (base := base) (cap := cap) ⟨h1, h2, cur, (hW g h1 hlt).trans h3, h4⟩ hl
theorem F_block {W : World} {P : Nat → Prop} {g : Nat} {n : Int} {p : ByteArray} {A2 : Option Addr} {c2 : Nat} {l : List ByteArray} (h : W.heap[g]? = some (.cells #[.int .i64 n, .string p, .slice A2 l.length c2] 25 (0, 0))) (hg : P g) (hl : l.length ≤ c2) (hF : Kd.F Kd.string W P A2 l.length l) :
    Kd.F kBl W P (some ⟨g, 0, none⟩) 1 [(n, p, l)] := by
  intro W' hW
  have hlt : g < W.heap.size := (Array.getElem?_eq_some_iff.1 h).1
  exact C_block ((hW g hg hlt).trans h) hl (hF W' hW)
/-- What Flush hands back. -/
def Flushed (P : Nat → Prop) (w w' : World) (m n : Int) (p d : ByteArray) (l : List ByteArray) (e : Ending) : Prop :=
  ∃ v2 v3 : Value, e = .returned (.tuple #[.agg #[.int .i64 m, .string d, v2], v3]) ∧ Kd.V Kd.string 9 w' w.heap.size (fun k => P k ∨ w.heap.size ≤ k) v2 [] ∧ Kd.V kBl 25 w' w.heap.size (fun k => P k ∨ w.heap.size ≤ k) v3 [(n, p, l)]
theorem V_none {α : Type} (d : Kd α) (e : Nat) (w : World) (b : Nat) (P : Nat → Prop) : Kd.V d e w b P (.slice none 0 0) [] := ⟨none, 0, rfl, Nat.le_refl _, Kd.F_nil d w P⟩
theorem flush_v (n m : Int) (hm : wrap64 (n + 1) = m) (p : ByteArray) (P : Nat → Prop) (A : Option Addr) (c : Nat) (l : List ByteArray) (w : World) (h0 : 0 < l.length) (hn : n ≤ 9223372036854775807) (hn0 : -9223372036854775808 ≤ n) (hv : Kd.V Kd.string 9 w w.heap.size P (.slice A l.length c) l) (hs : p.size + sizes l ≤ 140737488350000) (hlen : l.length * 16 ≤ 140737488355328) :
    Calls Try.prog 19 #[.agg #[.int .i64 n, .string p, .slice A l.length c]] w fun e w' => Flushed P w w' m n p (digB n p l) l e ∧ Below w.heap.size w w' := by
  obtain ⟨A', c', e', hc, hF⟩ := hv
  obtain ⟨rfl, rfl⟩ : A = A' ∧ c = c' := by injection e' with a _ b; exact ⟨a, b⟩
  refine (flush_c n m hm p A c l w h0 hn hn0 (Kd.F_now hF) hs hlen).mono ?_
  rintro e w' ⟨g, gv, cap, rfl, hg, hblk, hSN, hb⟩
  refine ⟨⟨_, _, rfl, V_none _ _ _ _ _, ⟨some ⟨g, 0, none⟩, 1, rfl, Nat.le_refl _, ?_⟩⟩, hb⟩
  exact F_block hblk (.inr hg) hSN.2.1 (Kd.F_mono (hSN.F (by omega)) (fun k hk => .inr hk))
theorem rflush_v (n m : Int) (hm : wrap64 (n + 1) = m) (p : ByteArray) (P : Nat → Prop) (A : Option Addr) (c : Nat) (l : List ByteArray) (w : World) (h0 : 0 < l.length) (hn : n ≤ 9223372036854775807) (hn0 : -9223372036854775808 ≤ n) (hv : Kd.V Kd.string 9 w w.heap.size P (.slice A l.length c) l) (hs : p.size + sizes l ≤ 140737488350000) :
    Calls Try.prog 20 #[.agg #[.int .i64 n, .string p, .slice A l.length c]] w fun e w' => Flushed P w w' m n p (digB n p l) l e ∧ Below w.heap.size w w' := by
  obtain ⟨A', c', e', hc, hF⟩ := hv
  obtain ⟨rfl, rfl⟩ : A = A' ∧ c = c' := by injection e' with a _ b; exact ⟨a, b⟩
  refine (rflush_c n m hm p A c l w h0 hn hn0 (Kd.F_now hF) hs).mono ?_
  rintro e w' ⟨g, rfl, hg, hblk, hb⟩
  refine ⟨⟨_, _, rfl, V_none _ _ _ _ _, ⟨some ⟨g, 0, none⟩, 1, rfl, Nat.le_refl _, ?_⟩⟩, hb⟩
  exact F_block hblk (.inr hg) hc (Kd.F_mono (Kd.F_below hF hb) (fun k hk => .inl hk))
end Go.Proofs.Ytiknkkkfkifahaa.Sa
end
