import Derived.Test.YtopijobdblfhoaaGreatVTuskChainsDp
set_option linter.unusedVariables false
set_option linter.unusedSimpArgs false
/- Trimmed by a program. By an AI agent. -/
namespace Go.Proofs.YtopijobdblfhoaaGreat.Si
open Go.RowKit Go.Lib Go.Proofs.YtopijobdblfhoaaGreatW.PrintWords Go.Proofs.YtopijobdblfhoaaGreatW.PrintLast Go.Proofs.YtopijobdblfhoaaGreatW.PrintMore
theorem Qnx (w : World) : (zeroValue 3).run Tryz.prog w = .ok (.int .i64 0) w := by kernel_rfl
set_option maxRecDepth 100000 in
theorem look_in {w : World} {b n : Nat} {D : DataW Unit} {inn : List (ByteArray × Int)} (h : w.ownsMap Tryz.prog 9 (plainElem Tryz.prog 3) b n D) (hm : Qc6 D inn) (s : ByteArray) (hs : s.size ≤ maxLen) :
  (Instr.lookup 88 (.map (some b)) (.string s) true).run Tryz.prog w = .ok (.tuple #[.int .i64 ((look inn s).getD 0), .bool ((look inn s).isSome)]) w := by
 obtain ⟨v, ps, hrun, hv⟩ := h.look_ok Qch Tryz.underlying88 (Qnx w) (plainElem_int Tryz.underlying3 (by rfl)) (Qcl hs); obtain ⟨c, rfl, hc, _⟩ := plainElem_int_inv Tryz.underlying3 hv; have h1 := (hm s).1; have h2 := (hm s).2; have h3 := congrArg Prod.fst hc; rw [h2] at h3
 have h4 : (look inn s).getD 0 = c := by injection h3 with h3; injection h3
 rw [h1] at hrun; rw [h4]; exact hrun
def pathR (fr : ByteArray) (inn : List (ByteArray × Int)) (tg : ByteArray) (rs : List ER) : Bool := if (firstE (fun x => x.d.toList == fr.toList) rs).2 then (look inn tg).isSome else false
set_option maxHeartbeats 8000000 in
set_option maxRecDepth 100000 in
theorem Path_c (A : Option Addr) (c : Nat) (rs : List ER) (nn low : Int) (dg tg : ByteArray) (inn : List (ByteArray × Int)) (w : World) (hr : Rowentry w A rs) (hlen : rs.length * 96 ≤ 140737488355328) (hto : tg.size ≤ maxLen)
  (hpast : ∀ w1 : World, Below w.heap.size w w1 → (firstE (fun x => x.d.toList == dg.toList) rs).2 = true → Calls Tryz.prog 62 #[.agg #[.int .i64 nn, .int .i64 low, .slice A rs.length c], (firstE (fun x => x.d.toList == dg.toList) rs).1.v] w1 fun e w' => ∃ mi ni D, e = .returned (.map (some mi)) ∧ w1.heap.size ≤ mi ∧ w'.ownsMap Tryz.prog 9 (plainElem Tryz.prog 3) mi ni D ∧ Qc6 D inn ∧ Below w1.heap.size w1 w') :
  Calls Tryz.prog 39 #[.agg #[.int .i64 nn, .int .i64 low, .slice A rs.length c], .string dg, .string tg] w fun e w' => e = .returned (.bool (pathR dg inn tg rs)) ∧ Below w.heap.size w w' := by
 have HFI := Lib.hid (fun (w1 : World) (hb : Below w.heap.size w w1) => find_c A c rs nn low dg w1 (Qa6 hr hb) (by omega)); have HTO := Lib.hid hto
 have hpr : ∀ b x, firstE (fun x => x.d.toList == dg.toList) rs = (x, b) → pathR dg inn tg rs = if b then (look inn tg).isSome else false := fun b x h => by unfold pathR; rw [h]
 generalize firstE (fun x => x.d.toList == dg.toList) rs = fe at HFI hpast hpr; obtain ⟨⟨td, tau, tro, tA3, tn3, tc3, tA4, tn4, tc4, tea, teb⟩, b⟩ := fe; rw [hpr b _ rfl]; have HP := Lib.hid hpast; clear hr hlen hto hpast hpr; have B0 : Below w.heap.size w (w.alloc (.cells #[.int .i64 nn, .int .i64 low, .slice A rs.length c] 24)) := (Below.refl _ _).alloc (Nat.le_refl _) _; have K0 : (w.alloc (.cells #[.int .i64 nn, .int .i64 low, .slice A rs.length c] 24)).heap[w.heap.size]? = some (.cells #[.int .i64 nn, .int .i64 low, .slice A rs.length c] 24 (0, 0)) := Qa9 _ _; unfold ER.v at HFI HP; dsimp only at HFI HP; go_enter Tryz.func39, Tryz.ntmps39
 go_wp2_with fail
 refine (HFI.out _ B0).mono ?_; rintro e w1 ⟨rfl, hb⟩; have B1 := Lib.hid (Qa0 B0 hb); have K1 := Lib.hid (Qam K0 hb); clear hb B0 K0 HFI
 cases b with
 | false =>
  go_wp2_with fail
  go_ret; exact ⟨rfl, B1.out.alloc B1.out.size _⟩
 | true =>
  have lt1 : w.heap.size < w1.heap.size := (Array.getElem?_eq_some_iff.1 K1.out).1; have HP1 := Lib.hid (HP.out _ (B1.out.alloc B1.out.size (.cells #[.string td, .int .i64 tau, .int .i64 tro, .slice tA3 tn3 tc3, .slice tA4 tn4 tc4, .int .i64 tea, .int .i64 teb] 32)) rfl); have d0 : (w1.alloc (.cells #[.string td, .int .i64 tau, .int .i64 tro, .slice tA3 tn3 tc3, .slice tA4 tn4 tc4, .int .i64 tea, .int .i64 teb] 32)).cell? ⟨w.heap.size, 0, none⟩ = some (.int .i64 nn) := (Qaa (Qah K1.out _) 0).trans rfl; have d1 : (w1.alloc (.cells #[.string td, .int .i64 tau, .int .i64 tro, .slice tA3 tn3 tc3, .slice tA4 tn4 tc4, .int .i64 tea, .int .i64 teb] 32)).cell? ⟨w.heap.size, 1, none⟩ = some (.int .i64 low) := (Qaa (Qah K1.out _) 1).trans rfl; have d2 : (w1.alloc (.cells #[.string td, .int .i64 tau, .int .i64 tro, .slice tA3 tn3 tc3, .slice tA4 tn4 tc4, .int .i64 tea, .int .i64 teb] 32)).cell? ⟨w.heap.size, 2, none⟩ = some (.slice A rs.length c) := (Qaa (Qah K1.out _) 2).trans rfl
  go_wp2_with fail
  refine HP1.out.mono ?_; rintro e w2 ⟨mi, ni, D, rfl, hmi, hown, hin, hb⟩; have B2 := Lib.hid (Qa0 (B1.out.alloc B1.out.size _) hb); have K2 := Lib.hid (Qam (Qah K1.out _) hb); have MP := Lib.hid hown; have HIN := Lib.hid hin; clear hb hown hin d0 d1 d2 HP1 HP B1 K1 K2 hmi; have hlk := look_in MP.out HIN.out tg HTO.out; obtain ⟨z, hz⟩ : ∃ z, look inn tg = z := ⟨_, rfl⟩; rw [hz] at hlk; have HZ := Lib.hid hz; clear MP HIN HTO hz
  go_wp2_with fail
  go_ret; exact ⟨by rw [HZ.out]; rfl, B2.out⟩
end Go.Proofs.YtopijobdblfhoaaGreat.Si
