import Derived.Test.YtcbfnmabckjijaaVTuskStopsIe
import Derived.Test.YtcbfnmabckjijaaVTuskStopsNo
/- Trimmed by a program. By an AI agent. -/
namespace Go.Proofs.Ytcbfnmabckjijaa.Si
open Go.RowKit Go.Lib Go.Proofs.YtcbfnmabckjijaaW.PrintWords Go.Proofs.YtcbfnmabckjijaaW.PrintLast Go.Proofs.YtcbfnmabckjijaaW.PrintMore
set_option linter.unusedVariables false
set_option linter.unusedSimpArgs false
def ER.v (x : ER) : Value := .agg #[.string x.d, .int .i64 x.au, .int .i64 x.ro, .slice x.A3 x.n3 x.c3, .slice x.A4 x.n4 x.c4, .int .i64 x.ea, .int .i64 x.eb]
def zER : ER := ⟨ByteArray.empty, 0, 0, none, 0, 0, none, 0, 0, 0, 0⟩
def firstE (p : ER → Bool) (rs : List ER) : ER × Bool := if 0 ≤ ixL p rs 0 then (rs.getD (ixL p rs 0).toNat zER, true) else (zER, false)
theorem Rowentry_below {W W' : World} {A : Option Addr} {l : List ER} (h : Rowentry W A l) (hb : Below W.heap.size W W') : Rowentry W' A l := by
 intro i x hx
 obtain ⟨ad, e, h0, h1, h2, h3, h4, h5, h6⟩ := h i x hx
 have c := fun (a : Addr) (v : Value) (q : W.cell? a = some v) => (hb.cell (World.block_lt_of_cell? _ _ q)).trans q
 exact ⟨ad, e, c _ _ h0, c _ _ h1, c _ _ h2, c _ _ h3, c _ _ h4, c _ _ h5, c _ _ h6⟩
set_option maxHeartbeats 8000000 in
set_option maxRecDepth 100000 in
theorem first_c (A : Option Addr) (c : Nat) (rs : List ER) (n low : Int) (p : ER → Bool) (fv : Value) (w : World) (hr : Rowentry w A rs) (hlen : rs.length ≤ 9223372036854775807)
  (hix : ∀ w1 : World, Below w.heap.size w w1 → Calls Try.prog 122 #[.slice A rs.length c, fv] w1 fun e w' => e = .returned (.int .i64 (ixL p rs 0)) ∧ Below w1.heap.size w1 w') :
  Calls Try.prog 94 #[.agg #[.int .i64 n, .int .i64 low, .slice A rs.length c], fv] w fun e w' => e = .returned (.tuple #[(firstE p rs).1.v, .bool (firstE p rs).2]) ∧ Below w.heap.size w w' := by
 have HR := Lib.hid hr
 have hz : (¬ 0 ≤ ixL p rs 0 ∧ firstE p rs = (zER, false)) ∨ ∃ k : Nat, ixL p rs 0 = (k : Int) ∧ ∃ x, rs[k]? = some x ∧ firstE p rs = (x, true) := by
  unfold firstE
  by_cases h : 0 ≤ ixL p rs 0
  ·
   obtain ⟨k, hk, hkl⟩ := ixL_lt p rs 0 h
   refine .inr ⟨k, by omega, rs[k], List.getElem?_eq_getElem hkl, ?_⟩
   rw [if_pos h, show (ixL p rs 0).toNat = k by omega, List.getD_eq_getElem?_getD, List.getElem?_eq_getElem hkl]
   rfl
  ·
   exact .inl ⟨h, if_neg h⟩
 generalize firstE p rs = fe at hz ⊢
 generalize ixL p rs 0 = z at hz hix
 have HIX := Lib.hid hix
 have HZ := Lib.hid hz
 clear hix hr hz
 go_enter Try.func94, Try.ntmps94
 go_wp2_with fail
 have B0 : Below w.heap.size w ((w.alloc (.cells #[.int .i64 n, .int .i64 low, .slice A rs.length c] 24)).alloc (.cells #[.string ByteArray.empty, .int .i64 0, .int .i64 0, .slice none 0 0, .slice none 0 0, .int .i64 0, .int .i64 0] 37)) := ((Below.refl _ _).alloc (Nat.le_refl _) _).alloc (by simp) _
 have K0 : ((w.alloc (.cells #[.int .i64 n, .int .i64 low, .slice A rs.length c] 24)).alloc (.cells #[.string ByteArray.empty, .int .i64 0, .int .i64 0, .slice none 0 0, .slice none 0 0, .int .i64 0, .int .i64 0] 37)).heap[w.heap.size]? = some (.cells #[.int .i64 n, .int .i64 low, .slice A rs.length c] 24 (0, 0)) := blk_alloc (blk_new _ _) _
 have K1 : ((w.alloc (.cells #[.int .i64 n, .int .i64 low, .slice A rs.length c] 24)).alloc (.cells #[.string ByteArray.empty, .int .i64 0, .int .i64 0, .slice none 0 0, .slice none 0 0, .int .i64 0, .int .i64 0] 37)).heap[w.heap.size + 1]? = some (.cells #[.string ByteArray.empty, .int .i64 0, .int .i64 0, .slice none 0 0, .slice none 0 0, .int .i64 0, .int .i64 0] 37 (0, 0)) := by
  have := blk_new (w.alloc (.cells #[.int .i64 n, .int .i64 low, .slice A rs.length c] 24)) (.cells #[.string ByteArray.empty, .int .i64 0, .int .i64 0, .slice none 0 0, .slice none 0 0, .int .i64 0, .int .i64 0] 37)
  simpa using this
 refine (HIX.out _ B0).mono ?_
 rintro e w1 ⟨rfl, hb⟩
 have B1 := Lib.hid (below_step B0 hb)
 have J0 := Lib.hid (blk_below K0 hb)
 have J1 := Lib.hid (blk_below K1 hb)
 clear hb B0 K0 K1 HIX
 have c2 : w1.cell? ⟨w.heap.size, 2, none⟩ = some (.slice A rs.length c) := (blk_cell J0.out 2).trans rfl
 have d0 : w1.cell? ⟨w.heap.size + 1, 0, none⟩ = some (.string ByteArray.empty) := (blk_cell J1.out 0).trans rfl
 have d1 : w1.cell? ⟨w.heap.size + 1, 1, none⟩ = some (.int .i64 0) := (blk_cell J1.out 1).trans rfl
 have d2 : w1.cell? ⟨w.heap.size + 1, 2, none⟩ = some (.int .i64 0) := (blk_cell J1.out 2).trans rfl
 have d3 : w1.cell? ⟨w.heap.size + 1, 3, none⟩ = some (.slice none 0 0) := (blk_cell J1.out 3).trans rfl
 have d4 : w1.cell? ⟨w.heap.size + 1, 4, none⟩ = some (.slice none 0 0) := (blk_cell J1.out 4).trans rfl
 have d5 : w1.cell? ⟨w.heap.size + 1, 5, none⟩ = some (.int .i64 0) := (blk_cell J1.out 5).trans rfl
 have d6 : w1.cell? ⟨w.heap.size + 1, 6, none⟩ = some (.int .i64 0) := (blk_cell J1.out 6).trans rfl
 have f0 := blk_frozen J1.out 0
 have f1 := blk_frozen J1.out 1
 have f2 := blk_frozen J1.out 2
 have f3 := blk_frozen J1.out 3
 have f4 := blk_frozen J1.out 4
 have f5 := blk_frozen J1.out 5
 have f6 := blk_frozen J1.out 6
 rcases HZ.out with ⟨hz, rfl⟩ | ⟨k, rfl, x, hx, rfl⟩
 ·
  have hd := eq_true (show z < 0 by omega)
  have hd2 : decide (z < 0) = true := decide_eq_true (by omega)
  clear HZ hz HR
  go_wp2_with fail
  have RK := J1.out
  replace RK := blk_put (cs' := #[.string (⟨#[]⟩ : ByteArray), .int .i64 0, .int .i64 0, .slice none 0 0, .slice none 0 0, .int .i64 0, .int .i64 0]) RK 0 (.string (⟨#[]⟩ : ByteArray)) rfl
  replace RK := blk_put (cs' := #[.string (⟨#[]⟩ : ByteArray), .int .i64 0, .int .i64 0, .slice none 0 0, .slice none 0 0, .int .i64 0, .int .i64 0]) RK 1 (.int .i64 0) rfl
  replace RK := blk_put (cs' := #[.string (⟨#[]⟩ : ByteArray), .int .i64 0, .int .i64 0, .slice none 0 0, .slice none 0 0, .int .i64 0, .int .i64 0]) RK 2 (.int .i64 0) rfl
  replace RK := blk_put (cs' := #[.string (⟨#[]⟩ : ByteArray), .int .i64 0, .int .i64 0, .slice none 0 0, .slice none 0 0, .int .i64 0, .int .i64 0]) RK 3 (.slice none 0 0) rfl
  replace RK := blk_put (cs' := #[.string (⟨#[]⟩ : ByteArray), .int .i64 0, .int .i64 0, .slice none 0 0, .slice none 0 0, .int .i64 0, .int .i64 0]) RK 4 (.slice none 0 0) rfl
  replace RK := blk_put (cs' := #[.string (⟨#[]⟩ : ByteArray), .int .i64 0, .int .i64 0, .slice none 0 0, .slice none 0 0, .int .i64 0, .int .i64 0]) RK 5 (.int .i64 0) rfl
  replace RK := blk_put (cs' := #[.string (⟨#[]⟩ : ByteArray), .int .i64 0, .int .i64 0, .slice none 0 0, .slice none 0 0, .int .i64 0, .int .i64 0]) RK 6 (.int .i64 0) rfl
  refine bodyPost_ret (results_ct rfl _ _ (w.heap.size + 1) 37 #[.string (⟨#[]⟩ : ByteArray), .int .i64 0, .int .i64 0, .slice none 0 0, .slice none 0 0, .int .i64 0, .int .i64 0] (0, 0) _ rfl RK Try.underlying37 rfl (by kernel_rfl)) rfl ?_
  refine ⟨rfl, ?_⟩
  repeat (refine below_set ?_ (by show w.heap.size ≤ w.heap.size + 1; omega))
  exact B1.out
 ·
  obtain ⟨ad, rfl, x0, x1, x2, x3, x4, x5, x6⟩ := Rowentry_below HR.out B1.out k x hx
  have hkl : k < rs.length := (List.getElem?_eq_some_iff.1 hx).1
  have h0 := eq_true (show 0 ≤ (k : Int) by omega)
  have h1 := eq_true (show (k : Int) < (rs.length : Int) by omega)
  have h2 := eq_false (show ¬ (k : Int) < 0 by omega)
  have h3 : decide ((k : Int) < 0) = false := decide_eq_false (by omega)
  have tn : ((k : Int)).toNat = k := Int.toNat_natCast k
  clear HZ hx HR
  go_wp2_with fail
  have RK := J1.out
  replace RK := blk_put (cs' := #[.string x.d, .int .i64 0, .int .i64 0, .slice none 0 0, .slice none 0 0, .int .i64 0, .int .i64 0]) RK 0 (.string x.d) rfl
  replace RK := blk_put (cs' := #[.string x.d, .int .i64 x.au, .int .i64 0, .slice none 0 0, .slice none 0 0, .int .i64 0, .int .i64 0]) RK 1 (.int .i64 x.au) rfl
  replace RK := blk_put (cs' := #[.string x.d, .int .i64 x.au, .int .i64 x.ro, .slice none 0 0, .slice none 0 0, .int .i64 0, .int .i64 0]) RK 2 (.int .i64 x.ro) rfl
  replace RK := blk_put (cs' := #[.string x.d, .int .i64 x.au, .int .i64 x.ro, .slice x.A3 x.n3 x.c3, .slice none 0 0, .int .i64 0, .int .i64 0]) RK 3 (.slice x.A3 x.n3 x.c3) rfl
  replace RK := blk_put (cs' := #[.string x.d, .int .i64 x.au, .int .i64 x.ro, .slice x.A3 x.n3 x.c3, .slice x.A4 x.n4 x.c4, .int .i64 0, .int .i64 0]) RK 4 (.slice x.A4 x.n4 x.c4) rfl
  replace RK := blk_put (cs' := #[.string x.d, .int .i64 x.au, .int .i64 x.ro, .slice x.A3 x.n3 x.c3, .slice x.A4 x.n4 x.c4, .int .i64 x.ea, .int .i64 0]) RK 5 (.int .i64 x.ea) rfl
  replace RK := blk_put (cs' := #[.string x.d, .int .i64 x.au, .int .i64 x.ro, .slice x.A3 x.n3 x.c3, .slice x.A4 x.n4 x.c4, .int .i64 x.ea, .int .i64 x.eb]) RK 6 (.int .i64 x.eb) rfl
  refine bodyPost_ret (results_ct rfl _ _ (w.heap.size + 1) 37 #[.string x.d, .int .i64 x.au, .int .i64 x.ro, .slice x.A3 x.n3 x.c3, .slice x.A4 x.n4 x.c4, .int .i64 x.ea, .int .i64 x.eb] (0, 0) _ rfl RK Try.underlying37 rfl (by kernel_rfl)) rfl ?_
  refine ⟨rfl, ?_⟩
  repeat (refine below_set ?_ (by show w.heap.size ≤ w.heap.size + 1; omega))
  exact B1.out
-- FIND
set_option maxHeartbeats 8000000 in
set_option maxRecDepth 100000 in
theorem find_c (A : Option Addr) (c : Nat) (rs : List ER) (n low : Int) (s : ByteArray) (w : World) (hr : Rowentry w A rs) (hlen : rs.length ≤ 9223372036854775807) :
  Calls Try.prog 68 #[.agg #[.int .i64 n, .int .i64 low, .slice A rs.length c], .string s] w fun e w' => e = .returned (.tuple #[(firstE (fun x => x.d.toList == s.toList) rs).1.v, .bool (firstE (fun x => x.d.toList == s.toList) rs).2]) ∧ Below w.heap.size w w' := by
 have HF := Lib.hid (fun (w1 : World) (hb : Below w.heap.size w w1) (hs1 : w1.cell? ⟨w.heap.size + 1, 0, none⟩ = some (.string s)) => first_c A c rs n low (fun x => x.d.toList == s.toList) (.func (.func 96) #[] #[.pointer (some ⟨w.heap.size + 1, 0, none⟩)]) w1 (Rowentry_below hr hb) hlen (fun w2 hb2 => index_entry A c rs 96 (.pointer (some ⟨w.heap.size + 1, 0, none⟩)) (fun x => x.d.toList == s.toList) w2 (Rowentry_below (Rowentry_below hr hb) hb2) hlen (enters_s Try.func96 rfl rfl) (fun W x hx hbW => find1_c x s (w.heap.size + 1) W (((hb2.trans (hbW.mono hb2.size)).cell (World.block_lt_of_cell? _ _ hs1)).trans hs1))))
 clear hr
 generalize firstE (fun x => x.d.toList == s.toList) rs = fe at HF ⊢
 obtain ⟨x, b⟩ := fe
 have B0 : Below w.heap.size w (((w.alloc (.cells #[.int .i64 n, .int .i64 low, .slice A rs.length c] 24)).alloc (.cells #[.string s] 9)).alloc (.cells #[.string (⟨#[]⟩ : ByteArray), .int .i64 0, .int .i64 0, .slice none 0 0, .slice none 0 0, .int .i64 0, .int .i64 0] 37)) := ((((Below.refl _ _).alloc (Nat.le_refl _) _).alloc (by simp <;> omega) _).alloc (by simp <;> omega) _)
 have K1 : (((w.alloc (.cells #[.int .i64 n, .int .i64 low, .slice A rs.length c] 24)).alloc (.cells #[.string s] 9)).alloc (.cells #[.string (⟨#[]⟩ : ByteArray), .int .i64 0, .int .i64 0, .slice none 0 0, .slice none 0 0, .int .i64 0, .int .i64 0] 37)).heap[w.heap.size + 1]? = some (.cells #[.string s] 9 (0, 0)) := by
  have h_ := blk_new (w.alloc (.cells #[.int .i64 n, .int .i64 low, .slice A rs.length c] 24)) (.cells #[.string s] 9)
  have e_ : (w.alloc (.cells #[.int .i64 n, .int .i64 low, .slice A rs.length c] 24)).heap.size = w.heap.size + 1 := by simp
  rw [e_] at h_
  exact blk_alloc (h_ ) _
 have KE : (((w.alloc (.cells #[.int .i64 n, .int .i64 low, .slice A rs.length c] 24)).alloc (.cells #[.string s] 9)).alloc (.cells #[.string (⟨#[]⟩ : ByteArray), .int .i64 0, .int .i64 0, .slice none 0 0, .slice none 0 0, .int .i64 0, .int .i64 0] 37)).heap[w.heap.size + 2]? = some (.cells #[.string (⟨#[]⟩ : ByteArray), .int .i64 0, .int .i64 0, .slice none 0 0, .slice none 0 0, .int .i64 0, .int .i64 0] 37 (0, 0)) := by
  have h_ := blk_new ((w.alloc (.cells #[.int .i64 n, .int .i64 low, .slice A rs.length c] 24)).alloc (.cells #[.string s] 9)) (.cells #[.string (⟨#[]⟩ : ByteArray), .int .i64 0, .int .i64 0, .slice none 0 0, .slice none 0 0, .int .i64 0, .int .i64 0] 37)
  have e_ : ((w.alloc (.cells #[.int .i64 n, .int .i64 low, .slice A rs.length c] 24)).alloc (.cells #[.string s] 9)).heap.size = w.heap.size + 2 := by simp
  rw [e_] at h_
  exact h_
 go_enter Try.func68, Try.ntmps68
 go_wp2_with fail
 refine (HF.out _ B0 ((blk_cell K1 0).trans rfl)).mono ?_
 rintro e w1 ⟨rfl, hb⟩
 have B1 := Lib.hid (below_step B0 hb)
 have J1 := Lib.hid (blk_below KE hb)
 clear hb B0 KE K1 HF
 have d0 : w1.cell? ⟨w.heap.size + 2, 0, none⟩ = some (.string (⟨#[]⟩ : ByteArray)) := (blk_cell J1.out 0).trans rfl
 have d1 : w1.cell? ⟨w.heap.size + 2, 1, none⟩ = some (.int .i64 0) := (blk_cell J1.out 1).trans rfl
 have d2 : w1.cell? ⟨w.heap.size + 2, 2, none⟩ = some (.int .i64 0) := (blk_cell J1.out 2).trans rfl
 have d3 : w1.cell? ⟨w.heap.size + 2, 3, none⟩ = some (.slice none 0 0) := (blk_cell J1.out 3).trans rfl
 have d4 : w1.cell? ⟨w.heap.size + 2, 4, none⟩ = some (.slice none 0 0) := (blk_cell J1.out 4).trans rfl
 have d5 : w1.cell? ⟨w.heap.size + 2, 5, none⟩ = some (.int .i64 0) := (blk_cell J1.out 5).trans rfl
 have d6 : w1.cell? ⟨w.heap.size + 2, 6, none⟩ = some (.int .i64 0) := (blk_cell J1.out 6).trans rfl
 have f0 := blk_frozen J1.out 0
 have f1 := blk_frozen J1.out 1
 have f2 := blk_frozen J1.out 2
 have f3 := blk_frozen J1.out 3
 have f4 := blk_frozen J1.out 4
 have f5 := blk_frozen J1.out 5
 have f6 := blk_frozen J1.out 6
 unfold ER.v
 go_wp2_with fail
 have RK := J1.out
 replace RK := blk_put (cs' := #[.string x.d, .int .i64 0, .int .i64 0, .slice none 0 0, .slice none 0 0, .int .i64 0, .int .i64 0]) RK 0 (.string x.d) rfl
 replace RK := blk_put (cs' := #[.string x.d, .int .i64 x.au, .int .i64 0, .slice none 0 0, .slice none 0 0, .int .i64 0, .int .i64 0]) RK 1 (.int .i64 x.au) rfl
 replace RK := blk_put (cs' := #[.string x.d, .int .i64 x.au, .int .i64 x.ro, .slice none 0 0, .slice none 0 0, .int .i64 0, .int .i64 0]) RK 2 (.int .i64 x.ro) rfl
 replace RK := blk_put (cs' := #[.string x.d, .int .i64 x.au, .int .i64 x.ro, .slice x.A3 x.n3 x.c3, .slice none 0 0, .int .i64 0, .int .i64 0]) RK 3 (.slice x.A3 x.n3 x.c3) rfl
 replace RK := blk_put (cs' := #[.string x.d, .int .i64 x.au, .int .i64 x.ro, .slice x.A3 x.n3 x.c3, .slice x.A4 x.n4 x.c4, .int .i64 0, .int .i64 0]) RK 4 (.slice x.A4 x.n4 x.c4) rfl
 replace RK := blk_put (cs' := #[.string x.d, .int .i64 x.au, .int .i64 x.ro, .slice x.A3 x.n3 x.c3, .slice x.A4 x.n4 x.c4, .int .i64 x.ea, .int .i64 0]) RK 5 (.int .i64 x.ea) rfl
 replace RK := blk_put (cs' := #[.string x.d, .int .i64 x.au, .int .i64 x.ro, .slice x.A3 x.n3 x.c3, .slice x.A4 x.n4 x.c4, .int .i64 x.ea, .int .i64 x.eb]) RK 6 (.int .i64 x.eb) rfl
 refine bodyPost_ret (results_ct rfl _ _ (w.heap.size + 2) 37 #[.string x.d, .int .i64 x.au, .int .i64 x.ro, .slice x.A3 x.n3 x.c3, .slice x.A4 x.n4 x.c4, .int .i64 x.ea, .int .i64 x.eb] (0, 0) _ rfl RK Try.underlying37 rfl (by kernel_rfl)) rfl ?_
 refine ⟨rfl, ?_⟩
 repeat (refine below_set ?_ (by show w.heap.size ≤ w.heap.size + 2; omega))
 exact B1.out
set_option maxHeartbeats 8000000 in
set_option maxRecDepth 100000 in
theorem by_c (A : Option Addr) (c : Nat) (rs : List ER) (n low : Int) (a r : Int) (w : World) (hr : Rowentry w A rs) (hlen : rs.length ≤ 9223372036854775807) :
  Calls Try.prog 67 #[.agg #[.int .i64 n, .int .i64 low, .slice A rs.length c], .int .i64 a, .int .i64 r] w fun e w' => e = .returned (.tuple #[(firstE (fun x => x.au == a && x.ro == r) rs).1.v, .bool (firstE (fun x => x.au == a && x.ro == r) rs).2]) ∧ Below w.heap.size w w' := by
 have HF := Lib.hid (fun (w1 : World) (hb : Below w.heap.size w w1) (hs1 : w1.cell? ⟨w.heap.size + 1, 0, none⟩ = some (.int .i64 a)) (hs2 : w1.cell? ⟨w.heap.size + 2, 0, none⟩ = some (.int .i64 r)) => first_c A c rs n low (fun x => x.au == a && x.ro == r) (.func (.func 95) #[] #[.pointer (some ⟨w.heap.size + 1, 0, none⟩), .pointer (some ⟨w.heap.size + 2, 0, none⟩)]) w1 (Rowentry_below hr hb) hlen (fun w2 hb2 => index_entry2 A c rs 95 (.pointer (some ⟨w.heap.size + 1, 0, none⟩)) (.pointer (some ⟨w.heap.size + 2, 0, none⟩)) (fun x => x.au == a && x.ro == r) w2 (Rowentry_below (Rowentry_below hr hb) hb2) hlen (enters_s Try.func95 rfl rfl) (fun W x hx hbW => by1_c x a r (w.heap.size + 1) (w.heap.size + 2) W (((hb2.trans (hbW.mono hb2.size)).cell (World.block_lt_of_cell? _ _ hs1)).trans hs1) (((hb2.trans (hbW.mono hb2.size)).cell (World.block_lt_of_cell? _ _ hs2)).trans hs2))))
 clear hr
 generalize firstE (fun x => x.au == a && x.ro == r) rs = fe at HF ⊢
 obtain ⟨x, b⟩ := fe
 have B0 : Below w.heap.size w ((((w.alloc (.cells #[.int .i64 n, .int .i64 low, .slice A rs.length c] 24)).alloc (.cells #[.int .i64 a] 3)).alloc (.cells #[.int .i64 r] 3)).alloc (.cells #[.string (⟨#[]⟩ : ByteArray), .int .i64 0, .int .i64 0, .slice none 0 0, .slice none 0 0, .int .i64 0, .int .i64 0] 37)) := (((((Below.refl _ _).alloc (Nat.le_refl _) _).alloc (by simp <;> omega) _).alloc (by simp <;> omega) _).alloc (by simp <;> omega) _)
 have K1 : ((((w.alloc (.cells #[.int .i64 n, .int .i64 low, .slice A rs.length c] 24)).alloc (.cells #[.int .i64 a] 3)).alloc (.cells #[.int .i64 r] 3)).alloc (.cells #[.string (⟨#[]⟩ : ByteArray), .int .i64 0, .int .i64 0, .slice none 0 0, .slice none 0 0, .int .i64 0, .int .i64 0] 37)).heap[w.heap.size + 1]? = some (.cells #[.int .i64 a] 3 (0, 0)) := by
  have h_ := blk_new (w.alloc (.cells #[.int .i64 n, .int .i64 low, .slice A rs.length c] 24)) (.cells #[.int .i64 a] 3)
  have e_ : (w.alloc (.cells #[.int .i64 n, .int .i64 low, .slice A rs.length c] 24)).heap.size = w.heap.size + 1 := by simp
  rw [e_] at h_
  exact blk_alloc (blk_alloc (h_ ) _ ) _
 have K2 : ((((w.alloc (.cells #[.int .i64 n, .int .i64 low, .slice A rs.length c] 24)).alloc (.cells #[.int .i64 a] 3)).alloc (.cells #[.int .i64 r] 3)).alloc (.cells #[.string (⟨#[]⟩ : ByteArray), .int .i64 0, .int .i64 0, .slice none 0 0, .slice none 0 0, .int .i64 0, .int .i64 0] 37)).heap[w.heap.size + 2]? = some (.cells #[.int .i64 r] 3 (0, 0)) := by
  have h_ := blk_new ((w.alloc (.cells #[.int .i64 n, .int .i64 low, .slice A rs.length c] 24)).alloc (.cells #[.int .i64 a] 3)) (.cells #[.int .i64 r] 3)
  have e_ : ((w.alloc (.cells #[.int .i64 n, .int .i64 low, .slice A rs.length c] 24)).alloc (.cells #[.int .i64 a] 3)).heap.size = w.heap.size + 2 := by simp
  rw [e_] at h_
  exact blk_alloc (h_ ) _
 have KE : ((((w.alloc (.cells #[.int .i64 n, .int .i64 low, .slice A rs.length c] 24)).alloc (.cells #[.int .i64 a] 3)).alloc (.cells #[.int .i64 r] 3)).alloc (.cells #[.string (⟨#[]⟩ : ByteArray), .int .i64 0, .int .i64 0, .slice none 0 0, .slice none 0 0, .int .i64 0, .int .i64 0] 37)).heap[w.heap.size + 3]? = some (.cells #[.string (⟨#[]⟩ : ByteArray), .int .i64 0, .int .i64 0, .slice none 0 0, .slice none 0 0, .int .i64 0, .int .i64 0] 37 (0, 0)) := by
  have h_ := blk_new (((w.alloc (.cells #[.int .i64 n, .int .i64 low, .slice A rs.length c] 24)).alloc (.cells #[.int .i64 a] 3)).alloc (.cells #[.int .i64 r] 3)) (.cells #[.string (⟨#[]⟩ : ByteArray), .int .i64 0, .int .i64 0, .slice none 0 0, .slice none 0 0, .int .i64 0, .int .i64 0] 37)
  have e_ : (((w.alloc (.cells #[.int .i64 n, .int .i64 low, .slice A rs.length c] 24)).alloc (.cells #[.int .i64 a] 3)).alloc (.cells #[.int .i64 r] 3)).heap.size = w.heap.size + 3 := by simp
  rw [e_] at h_
  exact h_
 go_enter Try.func67, Try.ntmps67
 go_wp2_with fail
 refine (HF.out _ B0 ((blk_cell K1 0).trans rfl) ((blk_cell K2 0).trans rfl)).mono ?_
 rintro e w1 ⟨rfl, hb⟩
 have B1 := Lib.hid (below_step B0 hb)
 have J1 := Lib.hid (blk_below KE hb)
 clear hb B0 KE K1 K2 HF
 have d0 : w1.cell? ⟨w.heap.size + 3, 0, none⟩ = some (.string (⟨#[]⟩ : ByteArray)) := (blk_cell J1.out 0).trans rfl
 have d1 : w1.cell? ⟨w.heap.size + 3, 1, none⟩ = some (.int .i64 0) := (blk_cell J1.out 1).trans rfl
 have d2 : w1.cell? ⟨w.heap.size + 3, 2, none⟩ = some (.int .i64 0) := (blk_cell J1.out 2).trans rfl
 have d3 : w1.cell? ⟨w.heap.size + 3, 3, none⟩ = some (.slice none 0 0) := (blk_cell J1.out 3).trans rfl
 have d4 : w1.cell? ⟨w.heap.size + 3, 4, none⟩ = some (.slice none 0 0) := (blk_cell J1.out 4).trans rfl
 have d5 : w1.cell? ⟨w.heap.size + 3, 5, none⟩ = some (.int .i64 0) := (blk_cell J1.out 5).trans rfl
 have d6 : w1.cell? ⟨w.heap.size + 3, 6, none⟩ = some (.int .i64 0) := (blk_cell J1.out 6).trans rfl
 have f0 := blk_frozen J1.out 0
 have f1 := blk_frozen J1.out 1
 have f2 := blk_frozen J1.out 2
 have f3 := blk_frozen J1.out 3
 have f4 := blk_frozen J1.out 4
 have f5 := blk_frozen J1.out 5
 have f6 := blk_frozen J1.out 6
 unfold ER.v
 go_wp2_with fail
 have RK := J1.out
 replace RK := blk_put (cs' := #[.string x.d, .int .i64 0, .int .i64 0, .slice none 0 0, .slice none 0 0, .int .i64 0, .int .i64 0]) RK 0 (.string x.d) rfl
 replace RK := blk_put (cs' := #[.string x.d, .int .i64 x.au, .int .i64 0, .slice none 0 0, .slice none 0 0, .int .i64 0, .int .i64 0]) RK 1 (.int .i64 x.au) rfl
 replace RK := blk_put (cs' := #[.string x.d, .int .i64 x.au, .int .i64 x.ro, .slice none 0 0, .slice none 0 0, .int .i64 0, .int .i64 0]) RK 2 (.int .i64 x.ro) rfl
 replace RK := blk_put (cs' := #[.string x.d, .int .i64 x.au, .int .i64 x.ro, .slice x.A3 x.n3 x.c3, .slice none 0 0, .int .i64 0, .int .i64 0]) RK 3 (.slice x.A3 x.n3 x.c3) rfl
 replace RK := blk_put (cs' := #[.string x.d, .int .i64 x.au, .int .i64 x.ro, .slice x.A3 x.n3 x.c3, .slice x.A4 x.n4 x.c4, .int .i64 0, .int .i64 0]) RK 4 (.slice x.A4 x.n4 x.c4) rfl
 replace RK := blk_put (cs' := #[.string x.d, .int .i64 x.au, .int .i64 x.ro, .slice x.A3 x.n3 x.c3, .slice x.A4 x.n4 x.c4, .int .i64 x.ea, .int .i64 0]) RK 5 (.int .i64 x.ea) rfl
 replace RK := blk_put (cs' := #[.string x.d, .int .i64 x.au, .int .i64 x.ro, .slice x.A3 x.n3 x.c3, .slice x.A4 x.n4 x.c4, .int .i64 x.ea, .int .i64 x.eb]) RK 6 (.int .i64 x.eb) rfl
 refine bodyPost_ret (results_ct rfl _ _ (w.heap.size + 3) 37 #[.string x.d, .int .i64 x.au, .int .i64 x.ro, .slice x.A3 x.n3 x.c3, .slice x.A4 x.n4 x.c4, .int .i64 x.ea, .int .i64 x.eb] (0, 0) _ rfl RK Try.underlying37 rfl (by kernel_rfl)) rfl ?_
 refine ⟨rfl, ?_⟩
 repeat (refine below_set ?_ (by show w.heap.size ≤ w.heap.size + 3; omega))
 exact B1.out
end Go.Proofs.Ytcbfnmabckjijaa.Si
