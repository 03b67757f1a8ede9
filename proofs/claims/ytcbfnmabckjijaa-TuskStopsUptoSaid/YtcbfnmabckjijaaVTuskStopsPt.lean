import Derived.Test.YtcbfnmabckjijaaVTuskStopsPb
/- Trimmed by a program. By an AI agent. -/
namespace Go.Proofs.Ytcbfnmabckjijaa.Si
open Go.RowKit Go.Lib Go.Proofs.YtcbfnmabckjijaaW.PrintWords Go.Proofs.YtcbfnmabckjijaaW.PrintLast Go.Proofs.YtcbfnmabckjijaaW.PrintMore
set_option linter.unusedVariables false
set_option linter.unusedSimpArgs false
def pathR (fr : ByteArray) (inn : List (ByteArray × Int)) (tg : ByteArray) (rs : List ER) : Bool := if (firstE (fun x => x.d.toList == fr.toList) rs).2 then (look inn tg).isSome else false
set_option maxHeartbeats 8000000 in
set_option maxRecDepth 100000 in
theorem Path_c (A : Option Addr) (c : Nat) (rs : List ER) (nn low : Int) (dg tg : ByteArray) (inn : List (ByteArray × Int)) (w : World) (hr : Rowentry w A rs) (hlen : rs.length * 96 ≤ 140737488355328) (hto : tg.size ≤ maxLen)
  (hpast : ∀ w1 : World, Below w.heap.size w w1 → (firstE (fun x => x.d.toList == dg.toList) rs).2 = true → Calls Try.prog 69 #[.agg #[.int .i64 nn, .int .i64 low, .slice A rs.length c], (firstE (fun x => x.d.toList == dg.toList) rs).1.v] w1 fun e w' => ∃ mi ni D, e = .returned (.map (some mi)) ∧ w1.heap.size ≤ mi ∧ w'.ownsMap Try.prog 9 (plainElem Try.prog 3) mi ni D ∧ MapIn D inn ∧ Below w1.heap.size w1 w') :
  Calls Try.prog 35 #[.agg #[.int .i64 nn, .int .i64 low, .slice A rs.length c], .string dg, .string tg] w fun e w' => e = .returned (.bool (pathR dg inn tg rs)) ∧ Below w.heap.size w w' := by
 have HFI := Lib.hid (fun (w1 : World) (hb : Below w.heap.size w w1) => find_c A c rs nn low dg w1 (Rowentry_below hr hb) (by omega))
 have HTO := Lib.hid hto
 have hpr : ∀ b x, firstE (fun x => x.d.toList == dg.toList) rs = (x, b) → pathR dg inn tg rs = if b then (look inn tg).isSome else false := fun b x h => by unfold pathR; rw [h]
 generalize firstE (fun x => x.d.toList == dg.toList) rs = fe at HFI hpast hpr
 obtain ⟨⟨td, tau, tro, tA3, tn3, tc3, tA4, tn4, tc4, tea, teb⟩, b⟩ := fe
 rw [hpr b _ rfl]
 have HP := Lib.hid hpast
 clear hr hlen hto hpast hpr
 have B0 : Below w.heap.size w (w.alloc (.cells #[.int .i64 nn, .int .i64 low, .slice A rs.length c] 24)) := (Below.refl _ _).alloc (Nat.le_refl _) _
 have K0 : (w.alloc (.cells #[.int .i64 nn, .int .i64 low, .slice A rs.length c] 24)).heap[w.heap.size]? = some (.cells #[.int .i64 nn, .int .i64 low, .slice A rs.length c] 24 (0, 0)) := blk_new _ _
 unfold ER.v at HFI HP
 dsimp only at HFI HP
 go_enter Try.func35, Try.ntmps35
 go_wp2_with fail
 refine (HFI.out _ B0).mono ?_
 rintro e w1 ⟨rfl, hb⟩
 have B1 := Lib.hid (below_step B0 hb)
 have K1 := Lib.hid (blk_below K0 hb)
 clear hb B0 K0 HFI
 cases b with
 | false =>
  go_wp2_with fail
  go_ret
  exact ⟨rfl, B1.out.alloc B1.out.size _⟩
 | true =>
  have lt1 : w.heap.size < w1.heap.size := (Array.getElem?_eq_some_iff.1 K1.out).1
  have HP1 := Lib.hid (HP.out _ (B1.out.alloc B1.out.size (.cells #[.string td, .int .i64 tau, .int .i64 tro, .slice tA3 tn3 tc3, .slice tA4 tn4 tc4, .int .i64 tea, .int .i64 teb] 37)) rfl)
  have d0 : (w1.alloc (.cells #[.string td, .int .i64 tau, .int .i64 tro, .slice tA3 tn3 tc3, .slice tA4 tn4 tc4, .int .i64 tea, .int .i64 teb] 37)).cell? ⟨w.heap.size, 0, none⟩ = some (.int .i64 nn) := (blk_cell (blk_alloc K1.out _) 0).trans rfl
  have d1 : (w1.alloc (.cells #[.string td, .int .i64 tau, .int .i64 tro, .slice tA3 tn3 tc3, .slice tA4 tn4 tc4, .int .i64 tea, .int .i64 teb] 37)).cell? ⟨w.heap.size, 1, none⟩ = some (.int .i64 low) := (blk_cell (blk_alloc K1.out _) 1).trans rfl
  have d2 : (w1.alloc (.cells #[.string td, .int .i64 tau, .int .i64 tro, .slice tA3 tn3 tc3, .slice tA4 tn4 tc4, .int .i64 tea, .int .i64 teb] 37)).cell? ⟨w.heap.size, 2, none⟩ = some (.slice A rs.length c) := (blk_cell (blk_alloc K1.out _) 2).trans rfl
  go_wp2_with fail
  refine HP1.out.mono ?_
  rintro e w2 ⟨mi, ni, D, rfl, hmi, hown, hin, hb⟩
  have B2 := Lib.hid (below_step (B1.out.alloc B1.out.size _) hb)
  have K2 := Lib.hid (blk_below (blk_alloc K1.out _) hb)
  have MP := Lib.hid hown
  have HIN := Lib.hid hin
  clear hb hown hin d0 d1 d2 HP1 HP B1 K1 K2 hmi
  have hlk := look_in MP.out HIN.out tg HTO.out
  obtain ⟨z, hz⟩ : ∃ z, look inn tg = z := ⟨_, rfl⟩
  rw [hz] at hlk
  have HZ := Lib.hid hz
  clear MP HIN HTO hz
  go_wp2_with fail
  go_ret
  exact ⟨by rw [HZ.out]; rfl, B2.out⟩
end Go.Proofs.Ytcbfnmabckjijaa.Si
