import Derived.Test.YtcbfnmabckjijaaVOrderTurnsDp
import Derived.Maps.OwnSet
import Derived.BigQuiet
/- Trimmed by a program. By an AI agent. -/
namespace Go.Proofs.Ytcbfnmabckjijaa.Si
open Go.RowKit Go.Lib Go.Proofs.YtcbfnmabckjijaaW.PrintWords Go.Proofs.YtcbfnmabckjijaaW.PrintLast Go.Proofs.YtcbfnmabckjijaaW.PrintMore
open Go.Maps (Keyed IsMap)
set_option linter.unusedVariables false
set_option linter.unusedSimpArgs false
theorem zero_int (w : World) : (zeroValue 3).run Try.prog w = .ok (.int .i64 0) w := by kernel_rfl
set_option maxRecDepth 100000 in
theorem look_in {w : World} {b n : Nat} {D : DataW Unit} {inn : List (ByteArray × Int)} (h : w.ownsMap Try.prog 9 (plainElem Try.prog 3) b n D) (hm : MapIn D inn) (s : ByteArray) (hs : s.size ≤ maxLen) :
  (Instr.lookup 95 (.map (some b)) (.string s) true).run Try.prog w = .ok (.tuple #[.int .i64 ((look inn s).getD 0), .bool ((look inn s).isSome)]) w := by
 obtain ⟨v, ps, hrun, hv⟩ := h.look_ok law_str Try.underlying95 (zero_int w) (plainElem_int Try.underlying3 (by rfl)) (key_str hs)
 obtain ⟨c, rfl, hc, _⟩ := plainElem_int_inv Try.underlying3 hv
 have h1 := (hm s).1
 have h2 := (hm s).2
 have h3 := congrArg Prod.fst hc
 rw [h2] at h3
 have h4 : (look inn s).getD 0 = c := by injection h3 with h3; injection h3
 rw [h1] at hrun
 rw [h4]
 exact hrun
def selE (inn : List (ByteArray × Int)) (lo : Int) (x : ER) : Bool := match look inn x.d with
 | some v => v == x.ro && decide (v > lo)
 | none => false
def cellsE : List ER → List Value
 | [] => []
 | x :: r => .string x.d :: .int .i64 x.au :: .int .i64 x.ro :: .slice x.A3 x.n3 x.c3 :: .slice x.A4 x.n4 x.c4 :: .int .i64 x.ea :: .int .i64 x.eb :: cellsE r
theorem cellsE_append : ∀ (rs qs : List ER), cellsE rs ++ cellsE qs = cellsE (rs ++ qs)
 | [], qs => rfl
 | x :: r, qs => by simp only [cellsE, List.cons_append, cellsE_append r qs]
def pastR (dg : ByteArray) (inn : List (ByteArray × Int)) (lo : Int) (rs : List ER) : List ER := if (firstE (fun x => x.d.toList == dg.toList) rs).2 then rs.filter (selE inn lo) else []
theorem drop_sel {rs : List ER} {k : Nat} {y : ER} (f : ER → Bool) (h : rs[k]? = some y) : (rs.take (k + 1)).filter f = (rs.take k).filter f ++ (if f y then [y] else []) := by
 rw [take_snoc h, List.filter_append]
 cases hf : f y <;> simp [hf]
set_option maxHeartbeats 8000000 in
set_option maxRecDepth 100000 in
theorem Past_c (A : Option Addr) (c : Nat) (rs : List ER) (nn low : Int) (dg : ByteArray) (lo : Int) (inn : List (ByteArray × Int)) (w : World) (hr : Rowentry w A rs) (hlen : rs.length * 96 ≤ 140737488355328) (hsz : ∀ x ∈ rs, x.d.size ≤ maxLen)
  (hpast : ∀ w1 : World, Below w.heap.size w w1 → (firstE (fun x => x.d.toList == dg.toList) rs).2 = true → Calls Try.prog 69 #[.agg #[.int .i64 nn, .int .i64 low, .slice A rs.length c], (firstE (fun x => x.d.toList == dg.toList) rs).1.v] w1 fun e w' => ∃ mi ni D, e = .returned (.map (some mi)) ∧ w1.heap.size ≤ mi ∧ w'.ownsMap Try.prog 9 (plainElem Try.prog 3) mi ni D ∧ MapIn D inn ∧ Below w1.heap.size w1 w') :
  Calls Try.prog 52 #[.agg #[.int .i64 nn, .int .i64 low, .slice A rs.length c], .string dg, .int .i64 lo] w fun e w' => ∃ v, e = .returned v ∧ w'.ownsRow w.heap.size 37 7 v (pastR dg inn lo rs).length (cellsE (pastR dg inn lo rs)) ∧ Below w.heap.size w w' := by
 have HFI := Lib.hid (fun (w1 : World) (hb : Below w.heap.size w w1) => find_c A c rs nn low dg w1 (Rowentry_below hr hb) (by omega))
 have HR := Lib.hid hr
 have HL := Lib.hid hlen
 have HSZ := Lib.hid hsz
 have hml : rs.length < 9223372036854775807 := by omega
 have HML := Lib.hid hml
 have hpr : ∀ b x, firstE (fun x => x.d.toList == dg.toList) rs = (x, b) → pastR dg inn lo rs = if b then rs.filter (selE inn lo) else [] := fun b x h => by unfold pastR; rw [h]
 generalize firstE (fun x => x.d.toList == dg.toList) rs = fe at HFI hpast hpr
 obtain ⟨⟨td, tau, tro, tA3, tn3, tc3, tA4, tn4, tc4, tea, teb⟩, b⟩ := fe
 rw [hpr b _ rfl]
 have HP := Lib.hid hpast
 clear hr hlen hsz hpast hpr hml
 have B0 : Below w.heap.size w (w.alloc (.cells #[.int .i64 nn, .int .i64 low, .slice A rs.length c] 24)) := (Below.refl _ _).alloc (Nat.le_refl _) _
 have K0 : (w.alloc (.cells #[.int .i64 nn, .int .i64 low, .slice A rs.length c] 24)).heap[w.heap.size]? = some (.cells #[.int .i64 nn, .int .i64 low, .slice A rs.length c] 24 (0, 0)) := blk_new _ _
 unfold ER.v at HFI HP
 dsimp only at HFI HP
 go_enter Try.func52, Try.ntmps52
 go_wp2_with fail
 refine (HFI.out _ B0).mono ?_
 rintro e w1 ⟨rfl, hb⟩
 have B1 := Lib.hid (below_step B0 hb)
 have K1 := Lib.hid (blk_below K0 hb)
 clear hb B0 K0 HFI
 cases b with
 | false =>
  go_wp2_with fail
  go_ret
  refine ⟨_, rfl, World.ownsRow_nil _ _ _ _, ?_⟩
  exact B1.out.alloc B1.out.size _
 | true =>
  have lt1 : w.heap.size < w1.heap.size := (Array.getElem?_eq_some_iff.1 K1.out).1
  have HP1 := Lib.hid (HP.out _ (B1.out.alloc B1.out.size (.cells #[.string td, .int .i64 tau, .int .i64 tro, .slice tA3 tn3 tc3, .slice tA4 tn4 tc4, .int .i64 tea, .int .i64 teb] 37)) rfl)
  have d0 : (w1.alloc (.cells #[.string td, .int .i64 tau, .int .i64 tro, .slice tA3 tn3 tc3, .slice tA4 tn4 tc4, .int .i64 tea, .int .i64 teb] 37)).cell? ⟨w.heap.size, 0, none⟩ = some (.int .i64 nn) := (blk_cell (blk_alloc K1.out _) 0).trans rfl
  have d1 : (w1.alloc (.cells #[.string td, .int .i64 tau, .int .i64 tro, .slice tA3 tn3 tc3, .slice tA4 tn4 tc4, .int .i64 tea, .int .i64 teb] 37)).cell? ⟨w.heap.size, 1, none⟩ = some (.int .i64 low) := (blk_cell (blk_alloc K1.out _) 1).trans rfl
  have d2 : (w1.alloc (.cells #[.string td, .int .i64 tau, .int .i64 tro, .slice tA3 tn3 tc3, .slice tA4 tn4 tc4, .int .i64 tea, .int .i64 teb] 37)).cell? ⟨w.heap.size, 2, none⟩ = some (.slice A rs.length c) := (blk_cell (blk_alloc K1.out _) 2).trans rfl
  go_wp2_with fail
  refine HP1.out.mono ?_
  rintro e w2 ⟨mi, ni, D, rfl, hmi, hown, hin, hb⟩
  have B2 := Lib.hid (below_step (B1.out.alloc B1.out.size _) hb)
  have K2 := Lib.hid (blk_below (blk_alloc K1.out _) hb)
  have MP := Lib.hid hown
  have HIN := Lib.hid hin
  have hmi2 : w.heap.size ≤ mi := by
   have := B1.out.size
   have := World.size_alloc w1 (.cells #[.string td, .int .i64 tau, .int .i64 tro, .slice tA3 tn3 tc3, .slice tA4 tn4 tc4, .int .i64 tea, .int .i64 teb] 37)
   omega
  have hmi3 : mi < w2.heap.size := hown.lt
  have HMI := Lib.hid hmi3
  clear hb hown hin d0 d1 d2 HP1 HP B1 K1 hmi hmi3
  have c2 : w2.cell? ⟨w.heap.size, 2, none⟩ = some (.slice A rs.length c) := (blk_cell K2.out 2).trans rfl
  go_wp2_with fail
  go_loopw [10, 29] (fun v10 p wr => ∃ k : Nat, p = .int .i64 k ∧ k ≤ rs.length ∧ Aside0 (wr.ownsRow w2.heap.size 37 7 v10 ((rs.take k).filter (selE inn lo)).length (cellsE ((rs.take k).filter (selE inn lo)))) ∧ Aside0 (wr.ownsMap Try.prog 9 (plainElem Try.prog 3) mi ni D) ∧ Aside0 (Below w.heap.size w wr) ∧ Aside0 (w2.heap.size ≤ wr.heap.size) ∧ Aside0 (Below w2.heap.size w2 wr))
   (fun _ p _ => rs.length - (RowKit.intOf p).toNat)
  case atStart => exact ⟨0, rfl, Nat.zero_le _, ⟨World.ownsRow_nil _ _ _ _⟩, ⟨MP.out⟩, ⟨B2.out⟩, ⟨Nat.le_refl _⟩, ⟨Below.refl _ _⟩⟩
  case round =>
   obtain ⟨k, rfl, hk, HO, HMP, BW, HWS, HB2⟩ := hrel
   by_cases hlt : k < rs.length
   ·
    have hltz := eq_true (show (k : Int) < (rs.length : Int) by omega)
    have p0 := eq_true (show 0 ≤ (k : Int) by omega)
    have tn : ((k : Int)).toNat = k := Int.toNat_natCast k
    obtain ⟨y, hy⟩ : ∃ y, rs[k]? = some y := ⟨_, List.getElem?_eq_getElem hlt⟩
    obtain ⟨yd, yau, yro, yA3, yn3, yc3, yA4, yn4, yc4, yea, yeb⟩ := y
    obtain ⟨ad, e0, x0, x1, x2, x3, x4, x5, x6⟩ := (Rowentry_below HR.out BW.out) k _ hy
    dsimp only at x0 x1 x2 x3 x4 x5 x6
    have HSZ1 := Lib.hid (HSZ.out _ (List.mem_of_getElem? hy))
    have HSEL : Hid ((rs.take (k + 1)).filter (selE inn lo) = (rs.take k).filter (selE inn lo) ++ (if selE inn lo (⟨yd, yau, yro, yA3, yn3, yc3, yA4, yn4, yc4, yea, yeb⟩ : ER) then [(⟨yd, yau, yro, yA3, yn3, yc3, yA4, yn4, yc4, yea, yeb⟩ : ER)] else [])) := Lib.hid (drop_sel _ hy)
    have HW : Hid (wrap64 ((k : Int) + 1) = ((k + 1 : Nat) : Int)) := Lib.hid (wrap_succ (Nat.lt_of_lt_of_le hlt (Nat.le_of_lt HML.out)))
    have hlk := look_in (HMP.out.alloc (.cells #[.string yd, .int .i64 yau, .int .i64 yro, .slice yA3 yn3 yc3, .slice yA4 yn4 yc4, .int .i64 yea, .int .i64 yeb] 37)) HIN.out yd HSZ1.out
    have HD : Hid (selE inn lo (⟨yd, yau, yro, yA3, yn3, yc3, yA4, yn4, yc4, yea, yeb⟩ : ER) = match look inn yd with
     | some v => v == yro && decide (v > lo)
     | none => false) := Lib.hid rfl
    cases e0
    clear hy
    cases hl : look inn yd with
    | none =>
     rw [hl] at hlk
     have HD0 : Hid (¬ selE inn lo (⟨yd, yau, yro, yA3, yn3, yc3, yA4, yn4, yc4, yea, yeb⟩ : ER) = true) := Lib.hid (by rw [HD.out, hl]; simp)
     clear HD hl
     dsimp only [Option.getD, Option.isSome] at hlk
     go_wp2
     go_roundw
     case rel => exact ⟨k + 1, by first | rfl | exact congrArg _ HW.out | go_num, by omega, ⟨by rw [HSEL.out, if_neg HD0.out]; simpa using HO.out.alloc (.cells #[.string yd, .int .i64 yau, .int .i64 yro, .slice yA3 yn3 yc3, .slice yA4 yn4 yc4, .int .i64 yea, .int .i64 yeb] 37)⟩, ⟨HMP.out.alloc _⟩, ⟨BW.out.alloc BW.out.size _⟩, ⟨Nat.le_trans HWS.out (by simp)⟩, ⟨HB2.out.alloc HWS.out _⟩⟩
     case measure => first | exact meas3 hlt | exact meas2 hlt HW.out
    | some v =>
     rw [hl] at hlk
     have HD1 : Hid (selE inn lo (⟨yd, yau, yro, yA3, yn3, yc3, yA4, yn4, yc4, yea, yeb⟩ : ER) = (v == yro && decide (v > lo))) := Lib.hid (by rw [HD.out, hl])
     clear HD hl
     dsimp only [Option.getD, Option.isSome] at hlk
     cases hv : (v == yro) with
     | false =>
      have HD0 : Hid (¬ selE inn lo (⟨yd, yau, yro, yA3, yn3, yc3, yA4, yn4, yc4, yea, yeb⟩ : ER) = true) := Lib.hid (by rw [HD1.out, hv]; simp)
      clear HD1
      go_wp2
      go_roundw
      case rel => exact ⟨k + 1, by first | rfl | exact congrArg _ HW.out | go_num, by omega, ⟨by rw [HSEL.out, if_neg HD0.out]; simpa using HO.out.alloc (.cells #[.string yd, .int .i64 yau, .int .i64 yro, .slice yA3 yn3 yc3, .slice yA4 yn4 yc4, .int .i64 yea, .int .i64 yeb] 37)⟩, ⟨HMP.out.alloc _⟩, ⟨BW.out.alloc BW.out.size _⟩, ⟨Nat.le_trans HWS.out (by simp)⟩, ⟨HB2.out.alloc HWS.out _⟩⟩
      case measure => first | exact meas3 hlt | exact meas2 hlt HW.out
     | true =>
      cases hg : decide (v > lo) with
      | false =>
       have HD0 : Hid (¬ selE inn lo (⟨yd, yau, yro, yA3, yn3, yc3, yA4, yn4, yc4, yea, yeb⟩ : ER) = true) := Lib.hid (by rw [HD1.out, hv, hg]; simp)
       clear HD1
       go_wp2
       go_roundw
       case rel => exact ⟨k + 1, by first | rfl | exact congrArg _ HW.out | go_num, by omega, ⟨by rw [HSEL.out, if_neg HD0.out]; simpa using HO.out.alloc (.cells #[.string yd, .int .i64 yau, .int .i64 yro, .slice yA3 yn3 yc3, .slice yA4 yn4 yc4, .int .i64 yea, .int .i64 yeb] 37)⟩, ⟨HMP.out.alloc _⟩, ⟨BW.out.alloc BW.out.size _⟩, ⟨Nat.le_trans HWS.out (by simp)⟩, ⟨HB2.out.alloc HWS.out _⟩⟩
       case measure => first | exact meas3 hlt | exact meas2 hlt HW.out
      | true =>
       have HD0 : Hid (selE inn lo (⟨yd, yau, yro, yA3, yn3, yc3, yA4, yn4, yc4, yea, yeb⟩ : ER) = true) := Lib.hid (by rw [HD1.out, hv, hg]; rfl)
       clear HD1
       have hbig : (((rs.take k).filter (selE inn lo)).length + 1) * 96 ≤ 140737488355328 := by
        have h1 := List.length_filter_le (selE inn lo) (rs.take k)
        have h2 : (rs.take k).length ≤ k := List.length_take_le _ _
        have := HL.out
        omega
       have HBG := Lib.hid hbig
       clear hbig
       have hws : w2.heap.size ≤ wr.heap.size := HWS.out
       have HBA : Hid (Below w2.heap.size w2 (wr.alloc (.cells #[.string yd, .int .i64 yau, .int .i64 yro, .slice yA3 yn3 yc3, .slice yA4 yn4 yc4, .int .i64 yea, .int .i64 yeb] 37))) := Lib.hid (HB2.out.alloc hws _)
       clear hws
       go_wp2_with (first | (at_builtin; refine print_append_cells (w0 := w2) w2.heap.size rfl (.tmp 53) (.tmp 55) 22 37 (.agg #[.string (⟨#[]⟩ : ByteArray), .int .i64 0, .int .i64 0, .slice none 0 0, .slice none 0 0, .int .i64 0, .int .i64 0]) 7 96 rfl Try.underlying22 (by kernel_rfl) rfl (by decide) (by decide) _ _ _ [.string yd, .int .i64 yau, .int .i64 yro, .slice yA3 yn3 yc3, .slice yA4 yn4 yc4, .int .i64 yea, .int .i64 yeb] rfl (by rw [World.size_alloc]; rfl) rfl (by simp [Value.oneCell']) (HO.out.alloc (.cells #[.string yd, .int .i64 yau, .int .i64 yro, .slice yA3 yn3 yc3, .slice yA4 yn4 yc4, .int .i64 yea, .int .i64 yeb] 37)) HBA.out (by rw [World.size_alloc]; exact Nat.le_succ_of_le HWS.out) HBG.out ?_; intro v5 w5 ho hb5 hg5 _; have HO5 := Lib.hid ho; have HG5 := Lib.hid hg5; have HB5 := Lib.hid hb5; clear ho hg5 hb5))
       have HBW : Hid (Below w.heap.size w w5) := Lib.hid ((BW.out.alloc BW.out.size (.cells #[.string yd, .int .i64 yau, .int .i64 yro, .slice yA3 yn3 yc3, .slice yA4 yn4 yc4, .int .i64 yea, .int .i64 yeb] 37)).grown HG5.out (Nat.le_trans BW.out.size (by simp)) (fun kk e => Nat.le_trans B2.out.size (HO.out.lt kk e).1))
       have HMP5 : Hid (w5.ownsMap Try.prog 9 (plainElem Try.prog 3) mi ni D) := Lib.hid ((HMP.out.alloc (.cells #[.string yd, .int .i64 yau, .int .i64 yro, .slice yA3 yn3 yc3, .slice yA4 yn4 yc4, .int .i64 yea, .int .i64 yeb] 37)).kept HG5.out (fun e => by
        have h_ := (HO.out.lt mi e.symm).1
        have h2_ := HMI.out
        omega))
       go_roundw
       case rel => exact ⟨k + 1, by first | rfl | exact congrArg _ HW.out | go_num, by omega, ⟨by rw [HSEL.out, if_pos HD0.out, List.length_append, ← cellsE_append]; exact HO5.out⟩, ⟨HMP5.out⟩, ⟨HBW.out⟩, ⟨Nat.le_trans (Nat.le_trans HWS.out (by simp)) HG5.out.size⟩, ⟨HB5.out⟩⟩
       case measure => first | exact meas3 hlt | exact meas2 hlt HW.out
   ·
    have hltz := eq_false (show ¬ (k : Int) < (rs.length : Int) by omega)
    have ek : k = rs.length := by omega
    subst ek
    go_wp2
    go_ret
    refine ⟨_, rfl, ?_, BW.out⟩
    have := HO.out
    rw [List.take_length] at this
    exact this.mono B2.out.size
end Go.Proofs.Ytcbfnmabckjijaa.Si
