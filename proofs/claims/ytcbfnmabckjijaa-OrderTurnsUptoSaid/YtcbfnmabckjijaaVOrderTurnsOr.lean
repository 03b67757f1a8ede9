import Derived.Test.YtcbfnmabckjijaaVOrderTurnsIo
/- Trimmed by a program. By an AI agent. -/
namespace Go.Proofs.Ytcbfnmabckjijaa.Si
open Go.RowKit Go.Lib Go.Proofs.YtcbfnmabckjijaaW.PrintWords Go.Proofs.YtcbfnmabckjijaaW.PrintLast Go.Proofs.YtcbfnmabckjijaaW.PrintMore
set_option linter.unusedVariables false
set_option linter.unusedSimpArgs false
theorem ixL_lt {α : Type} (p : α → Bool) : ∀ (l : List α) (i : Nat), 0 ≤ ixL p l i → ∃ k : Nat, ixL p l i = ((i + k : Nat) : Int) ∧ k < l.length
 | [], i, h => by simp [ixL] at h
 | x :: r, i, h => by
  rw [ixL] at h ⊢
  by_cases hp : p x = true
  ·
   exact ⟨0, by rw [if_pos hp]; simp, by simp⟩
  ·
   rw [if_neg hp] at h ⊢
   obtain ⟨k, e, hk⟩ := ixL_lt p r (i + 1) h
   exact ⟨k + 1, by rw [e]; congr 1; omega, by simp; omega⟩
theorem ixL_neg {α : Type} (p : α → Bool) : ∀ (l : List α) (i : Nat), ¬ 0 ≤ ixL p l i → ixL p l i = -1
 | [], i, h => rfl
 | x :: r, i, h => by
  rw [ixL] at h ⊢
  by_cases hp : p x = true
  ·
   rw [if_pos hp] at h; omega
  ·
   rw [if_neg hp] at h ⊢
   exact ixL_neg p r (i + 1) h
theorem enters_s {g : Nat} {fn : Func} (hf : Try.prog.funcs[g]? = some fn) (hname : (fn.name == "runtime.NumGoroutine") = false) (hb : fn.body.isSome = true) : ∀ args w, (callFunc g args).run Try.prog w = .ok (.enter g args) w := fun args w => enters_ hf hname hb args w
theorem Rowmark_below {W W' : World} {A : Option Addr} {l : List MR} (h : Rowmark W A l) (hb : Below W.heap.size W W') : Rowmark W' A l := by
 intro i x hx
 obtain ⟨ad, e, h0, h1, h2⟩ := h i x hx
 exact ⟨ad, e, (hb.cell (World.block_lt_of_cell? W _ h0)).trans h0, (hb.cell (World.block_lt_of_cell? W _ h1)).trans h1, (hb.cell (World.block_lt_of_cell? W _ h2)).trans h2⟩
theorem Rowint_below {W W' : World} {A : Option Addr} {l : List Int} (h : Rowint W A l) (hb : Below W.heap.size W W') : Rowint W' A l := by
 intro i x hx
 obtain ⟨ad, e, h0⟩ := h i x hx
 exact ⟨ad, e, (hb.cell (World.block_lt_of_cell? W _ h0)).trans h0⟩
def ofR (rs : List MR) (o : Int) : MR × Int := if 0 ≤ ixL (fun x : MR => x.1 == o) rs 0 then (rs.getD (ixL (fun x : MR => x.1 == o) rs 0).toNat (0, 0, none, 0, 0), ixL (fun x : MR => x.1 == o) rs 0) else ((o, 0, none, 0, 0), -1)
set_option maxHeartbeats 8000000 in
set_option maxRecDepth 100000 in
theorem of_c (A : Option Addr) (c : Nat) (rs : List MR) (o : Int) (w : World) (hr : Rowmark w A rs) (hlen : rs.length ≤ 9223372036854775807) :
  Calls Try.prog 40 #[.slice A rs.length c, .int .i64 o] w fun e w' => e = .returned (.tuple #[.agg #[.int .i64 (ofR rs o).1.1, .int .i64 (ofR rs o).1.2.1, .slice (ofR rs o).1.2.2.1 (ofR rs o).1.2.2.2.1 (ofR rs o).1.2.2.2.2], .int .i64 (ofR rs o).2]) ∧ Below w.heap.size w w' := by
 have B0 : Below w.heap.size w ((w.alloc (.cells #[.int .i64 o] 3)).alloc (.cells #[.int .i64 0, .int .i64 0, .slice none 0 0] 54)) := ((Below.refl _ _).alloc (Nat.le_refl _) _).alloc (by simp) _
 have K0 : ((w.alloc (.cells #[.int .i64 o] 3)).alloc (.cells #[.int .i64 0, .int .i64 0, .slice none 0 0] 54)).heap[w.heap.size]? = some (.cells #[.int .i64 o] 3 (0, 0)) := blk_alloc (blk_new _ _) _
 have K1 : ((w.alloc (.cells #[.int .i64 o] 3)).alloc (.cells #[.int .i64 0, .int .i64 0, .slice none 0 0] 54)).heap[w.heap.size + 1]? = some (.cells #[.int .i64 0, .int .i64 0, .slice none 0 0] 54 (0, 0)) := by
  have := blk_new (w.alloc (.cells #[.int .i64 o] 3)) (.cells #[.int .i64 0, .int .i64 0, .slice none 0 0] 54)
  simpa using this
 have HC := Lib.hid (index_mark A c rs 73 (.pointer (some ⟨w.heap.size, 0, none⟩)) (fun x => x.1 == o) _ (Rowmark_below hr B0) hlen (enters_s Try.func73 rfl rfl) (fun W x hx hb => of1_c x o w.heap.size W ((blk_cell (blk_below K0 hb) 0).trans rfl)))
 have HK0 := Lib.hid K0
 have HK1 := Lib.hid K1
 have HB0 := Lib.hid B0
 have HR := Lib.hid hr
 have hofR : Hid (∀ z, ixL (fun x : MR => x.1 == o) rs 0 = z → ofR rs o = if 0 ≤ z then (rs.getD z.toNat (0, 0, none, 0, 0), z) else ((o, 0, none, 0, 0), -1)) := Lib.hid (fun z hz => by unfold ofR; rw [hz])
 have hlt := ixL_lt (fun x : MR => x.1 == o) rs 0
 have hng := ixL_neg (fun x : MR => x.1 == o) rs 0
 generalize ixL (fun x : MR => x.1 == o) rs 0 = z at HC hofR hlt hng
 have hof := hofR.out z rfl
 clear hr K0 K1 B0 hofR
 by_cases hz : 0 ≤ z
 ·
  obtain ⟨k, hk, hkl⟩ := hlt hz
  rw [Nat.zero_add] at hk
  subst hk
  rw [if_pos hz] at hof
  rw [hof]
  clear hof hlt hng
  obtain ⟨x, hx⟩ : ∃ x, x = rs[k] := ⟨_, rfl⟩
  have hxg : rs[k]? = some x := by rw [hx]; exact List.getElem?_eq_getElem hkl
  have hgd : rs.getD k (0, 0, none, 0, 0) = x := by rw [List.getD_eq_getElem?_getD, hxg]; rfl
  rw [Int.toNat_natCast, hgd]
  have HG := Lib.hid hxg
  clear hgd hx hxg
  go_enter Try.func40, Try.ntmps40
  go_wp2_with fail
  refine HC.out.mono ?_
  rintro e w1 ⟨rfl, hb⟩
  have HB1 := Lib.hid (HB0.out.trans (hb.mono HB0.out.size))
  have R1 := blk_below HK1.out hb
  have r1 : w1.cell? ⟨w.heap.size + 1, 0, none⟩ = some (.int .i64 0) := (blk_cell R1 0).trans rfl
  have r2 : w1.cell? ⟨w.heap.size + 1, 1, none⟩ = some (.int .i64 0) := (blk_cell R1 1).trans rfl
  have r3 : w1.cell? ⟨w.heap.size + 1, 2, none⟩ = some (.slice none 0 0) := (blk_cell R1 2).trans rfl
  have f1 := blk_frozen R1 0
  have f2 := blk_frozen R1 1
  have f3 := blk_frozen R1 2
  obtain ⟨ad, e, q0, q1, q2⟩ := (Rowmark_below HR.out HB1.out) k x HG.out
  cases e
  have p147 := eq_true (show 0 ≤ (k : Int) by omega)
  have q147 := eq_true (show (k : Int) < (rs.length : Int) by omega)
  have tn : ((k : Int)).toNat = k := Int.toNat_natCast k
  clear hb R1
  go_wp2
  refine bodyPost_ret (v := .tuple #[.agg #[.int .i64 x.1, .int .i64 x.2.1, .slice x.2.2.1 x.2.2.2.1 x.2.2.2.2], .int .i64 k]) ?_ rfl ⟨rfl, ?_⟩
  ·
   simp [results, Try.results40, go_sem, r1, r2, r3]
  ·
   exact below_set (below_set (below_set HB1.out (by omega)) (by omega)) (by omega)
 ·
  have e1 := hng hz
  subst e1
  rw [if_neg hz] at hof
  rw [hof]
  clear hof hlt hng
  go_enter Try.func40, Try.ntmps40
  go_wp2_with fail
  refine HC.out.mono ?_
  rintro e w1 ⟨rfl, hb⟩
  have HB1 := Lib.hid (HB0.out.trans (hb.mono HB0.out.size))
  have R1 := blk_below HK1.out hb
  have R0 := blk_below HK0.out hb
  have r0 : w1.cell? ⟨w.heap.size, 0, none⟩ = some (.int .i64 o) := (blk_cell R0 0).trans rfl
  have r1 : w1.cell? ⟨w.heap.size + 1, 0, none⟩ = some (.int .i64 0) := (blk_cell R1 0).trans rfl
  have r2 : w1.cell? ⟨w.heap.size + 1, 1, none⟩ = some (.int .i64 0) := (blk_cell R1 1).trans rfl
  have r3 : w1.cell? ⟨w.heap.size + 1, 2, none⟩ = some (.slice none 0 0) := (blk_cell R1 2).trans rfl
  have f1 := blk_frozen R1 0
  have f2 := blk_frozen R1 1
  have f3 := blk_frozen R1 2
  clear hb R1 R0
  go_wp2
  refine bodyPost_ret (v := .tuple #[.agg #[.int .i64 o, .int .i64 0, .slice none 0 0], .int .i64 (-1)]) ?_ rfl ⟨rfl, ?_⟩
  ·
   simp [results, Try.results40, go_sem, r1, r2, r3]
  ·
   exact below_set (below_set (below_set HB1.out (by omega)) (by omega)) (by omega)

def freshR (o s lo : Int) (l : List Int) : Bool := decide (o ≥ 1) && decide (o ≤ 64) && decide (s > lo) && decide (wrap64 (s - 8) ≤ lo) && !l.contains s
set_option maxHeartbeats 8000000 in
set_option maxRecDepth 100000 in
theorem fresh_c (A : Option Addr) (c : Nat) (rs : List MR) (o s : Int) (w : World) (hr : Rowmark w A rs) (hlen : rs.length ≤ 9223372036854775807)
  (A' : Option Addr) (c' : Nat) (l : List Int) (hm : (ofR rs o).1.2.2 = (A', l.length, c')) (hl : Rowint w A' l) (hlen' : l.length ≤ 9223372036854775807) :
  Calls Try.prog 21 #[.slice A rs.length c, .int .i64 o, .int .i64 s] w fun e w' => e = .returned (.bool (freshR o s (ofR rs o).1.2.1 l)) ∧ Below w.heap.size w w' := by
 have HC := of_c A c rs o w hr hlen
 rw [hm] at HC
 clear hm
 generalize ofR rs o = q at HC ⊢
 obtain ⟨⟨o', lo, v'⟩, at'⟩ := q
 replace HC := Lib.hid HC
 have HL := Lib.hid hl
 clear hr hl
 by_cases h1 : 1 ≤ o
 ·
  by_cases h2 : o ≤ 64
  ·
   by_cases h3 : lo < s
   ·
    by_cases h4 : wrap64 (s - 8) ≤ lo
    ·
     have e : freshR o s lo l = !l.contains s := by unfold freshR; simp [h1, h2, h3, h4]
     rw [e]
     clear e
     go_enter Try.func21, Try.ntmps21
     go_wp2_with fail
     refine HC.out.mono ?_
     rintro e w1 ⟨rfl, hb⟩
     have B3 : Below w.heap.size w (w1.alloc (.cells #[.int .i64 o', .int .i64 lo, .slice A' l.length c'] 54)) := hb.alloc hb.size _
     have HXc := Lib.hid (contains_int A' c' l s (w1.alloc (.cells #[.int .i64 o', .int .i64 lo, .slice A' l.length c'] 54)) (Rowint_below (Rowint_below HL.out hb) ((Below.refl _ _).alloc (Nat.le_refl _) _)) hlen')
     clear hb
     have p4 := eq_true h4
     generalize hq : wrap64 (s - 8) = y at h4 p4
     go_wp2_with fail
     refine HXc.out.mono ?_
     rintro e w2 ⟨rfl, rfl⟩
     go_wp2
     go_ret
     first | exact ⟨rfl, B3⟩ | exact ⟨by rw [List.contains_eq_mem]; rfl, B3⟩
    ·
     have e : freshR o s lo l = false := by unfold freshR; simp [h1, h2, h3, h4]
     rw [e]
     clear e
     go_enter Try.func21, Try.ntmps21
     go_wp2_with fail
     refine HC.out.mono ?_
     rintro e w1 ⟨rfl, hb⟩
     have B3 : Below w.heap.size w (w1.alloc (.cells #[.int .i64 o', .int .i64 lo, .slice A' l.length c'] 54)) := hb.alloc hb.size _
     clear hb
     go_wp2
     go_ret
     first | exact ⟨rfl, B3⟩ | exact ⟨by rw [List.contains_eq_mem]; rfl, B3⟩
   ·
    have e : freshR o s lo l = false := by unfold freshR; simp [h1, h2, h3]
    rw [e]
    clear e
    go_enter Try.func21, Try.ntmps21
    go_wp2_with fail
    refine HC.out.mono ?_
    rintro e w1 ⟨rfl, hb⟩
    have B3 : Below w.heap.size w (w1.alloc (.cells #[.int .i64 o', .int .i64 lo, .slice A' l.length c'] 54)) := hb.alloc hb.size _
    clear hb
    go_wp2
    go_ret
    exact ⟨rfl, B3⟩
  ·
   have e : freshR o s lo l = false := by unfold freshR; simp [h1, h2]
   rw [e]
   clear e
   go_enter Try.func21, Try.ntmps21
   go_wp2_with fail
   refine HC.out.mono ?_
   rintro e w1 ⟨rfl, hb⟩
   have B3 : Below w.heap.size w (w1.alloc (.cells #[.int .i64 o', .int .i64 lo, .slice A' l.length c'] 54)) := hb.alloc hb.size _
   clear hb
   go_wp2
   go_ret
   exact ⟨rfl, B3⟩
 ·
  have e : freshR o s lo l = false := by unfold freshR; simp [h1]
  rw [e]
  clear e
  go_enter Try.func21, Try.ntmps21
  go_wp2_with fail
  refine HC.out.mono ?_
  rintro e w1 ⟨rfl, hb⟩
  have B3 : Below w.heap.size w (w1.alloc (.cells #[.int .i64 o', .int .i64 lo, .slice A' l.length c'] 54)) := hb.alloc hb.size _
  clear hb
  go_wp2
  go_ret
  exact ⟨rfl, B3⟩
end Go.Proofs.Ytcbfnmabckjijaa.Si
