import Derived.Test.YtcbfnmabckjijaaVOrderTurnsSs
import Derived.Test.YtcbfnmabckjijaaVOrderTurnsIe
import Derived.Test.YtcbfnmabckjijaaVOrderTurnsNo
import Derived.Test.YtcbfnmabckjijaaVOrderTurnsWN
/- Trimmed by a program. By an AI agent. -/
namespace Go.Proofs.Ytcbfnmabckjijaa.Si
open Go.RowKit Go.Lib Go.Proofs.YtcbfnmabckjijaaW.PrintWords Go.Proofs.YtcbfnmabckjijaaW.PrintLast Go.Proofs.YtcbfnmabckjijaaW.PrintMore
set_option linter.unusedVariables false
set_option linter.unusedSimpArgs false
def strGt (x s : ByteArray) : Bool := !Op.bytesLess x.toList s.toList && !x.toList == s.toList
def withS (l : List ByteArray) (s : ByteArray) : List ByteArray := if l.contains s then l else insAt (fun x => strGt x s) s l
theorem row_str {W : World} {ok : Nat → Prop} {A : Option Addr} {l : List ByteArray} (h : Kd.F Kd.string W ok A l.length l) : Rowstr W A l := by
 intro i x hx
 have hC := Kd.F_now h
 have hi : i < l.length := (List.getElem?_eq_some_iff.1 hx).1
 obtain ⟨ad, hA, hc⟩ := hC.2.2 (by omega)
 obtain ⟨cs, _, hK, hcs⟩ := hc i x hx
 have hK' : cs = [.string x] := hK
 subst hK'
 have h0 := hcs 0 _ rfl
 refine ⟨ad, hA, ?_⟩
 have e3 : Kd.string.sz = 1 := rfl
 rw [e3, Nat.mul_one, Nat.add_zero] at h0
 exact h0
theorem Rowstr_below {W W' : World} {A : Option Addr} {l : List ByteArray} (h : Rowstr W A l) (hb : Below W.heap.size W W') : Rowstr W' A l := by
 intro i x hx
 obtain ⟨ad, e, h0⟩ := h i x hx
 exact ⟨ad, e, (hb.cell (World.block_lt_of_cell? _ _ h0)).trans h0⟩
set_option maxHeartbeats 8000000 in
set_option maxRecDepth 100000 in
theorem with_c (A : Option Addr) (c : Nat) (l : List ByteArray) (s : ByteArray) (w : World) (hr : Rowstr w A l) (hlen : l.length * 16 + 16 ≤ 140737488355328) (hn : l.contains s = false)
  (hcon : ∀ w1 : World, Below w.heap.size w w1 → Calls Try.prog 53 #[.slice A l.length c, .string s] w1 fun e w' => e = .returned (.bool false) ∧ Below w1.heap.size w1 w') :
  Calls Try.prog 54 #[.slice A l.length c, .string s] w fun e w' => ∃ v : Value, e = .returned v ∧ w'.ownsRow w.heap.size 9 1 v (l.length + 1) ((withS l s).map Value.string) ∧ Below w.heap.size w w' := by
 have HCON := Lib.hid hcon
 have HIX := Lib.hid (fun (w1 : World) (b : Nat) (hb : Below w.heap.size w w1) (hs : w1.cell? ⟨b, 0, none⟩ = some (.string s)) => index_str A c l 81 (.pointer (some ⟨b, 0, none⟩)) (fun x => strGt x s) w1 (Rowstr_below hr hb) (by omega) (enters_s Try.func81 rfl rfl) (fun W x hx hbW => with1_c x s b W ((hbW.cell (World.block_lt_of_cell? _ _ hs)).trans hs)))
 have HCL := Lib.hid (fun (w5 : World) (hb : Below w.heap.size w w5) => clone_str A l.length c (l.map Value.string) w5 (by simp) (fun h => by
   cases l with
   | nil => rfl
   | cons x r =>
    obtain ⟨ad, e, _⟩ := hr 0 x rfl
    rw [h] at e; cases e) (by omega) (fun a ha j u hj => by
     rw [List.getElem?_map, Option.map_eq_some_iff] at hj
     obtain ⟨x, hx, rfl⟩ := hj
     obtain ⟨ad, e, hc⟩ := Rowstr_below hr hb j x hx
     rw [ha] at e; cases e; exact hc) (by simp [Value.oneCell']))
 have HL := Lib.hid hlen
 have hws : withS l s = insAt (fun x => strGt x s) s l := by unfold withS; rw [hn]; rfl
 rw [hws]
 clear hr hlen hn hcon hws
 generalize hl0 : insAt (fun x => strGt x s) s l = l0
 go_enter Try.func54, Try.ntmps54
 go_wp2_with fail
 have B0 : Below w.heap.size w (w.alloc (.cells #[.string s] 9)) := (Below.refl _ _).alloc (Nat.le_refl _) _
 have K0 : (w.alloc (.cells #[.string s] 9)).heap[w.heap.size]? = some (.cells #[.string s] 9 (0, 0)) := blk_new _ _
 refine (HCON.out _ B0).mono ?_
 rintro e w1 ⟨rfl, hb⟩
 have B1 := Lib.hid (below_step B0 hb)
 have K1 := Lib.hid (blk_below K0 hb)
 clear hb K0 B0 HCON
 have HI := Lib.hid (HIX.out _ w.heap.size B1.out ((blk_cell K1.out 0).trans rfl))
 go_wp2_with fail
 refine HI.out.mono ?_
 rintro e w2 ⟨rfl, hb⟩
 have B2 := Lib.hid (below_step B1.out hb)
 have K2 := Lib.hid (blk_below K1.out hb)
 clear hb HI B1 K1 HIX
 have hpl := place_spec (fun x => strGt x s) l
 unfold insAt at hl0
 generalize ixL (fun x => strGt x s) l 0 = z at hpl ⊢
 generalize place (fun x => strGt x s) l = pl at hpl hl0
 obtain ⟨hp1, hp2, hp3⟩ := hpl
 have m1 : w2.cell? ⟨w.heap.size, 0, none⟩ = some (.string s) := (blk_cell K2.out 0).trans rfl
 have lt2 : w.heap.size < w2.heap.size := (Array.getElem?_eq_some_iff.1 K2.out).1
 have hz : z = ((pl : Nat) : Int) ∨ pl = l.length ∧ z < 0 := by
  by_cases h : 0 ≤ z
  ·
   exact .inl (hp1 h)
  ·
   exact .inr ⟨hp2 h, by omega⟩
 have HZ := Lib.hid hz
 clear hp1 hp2 hz
 go_upto_if 14 with (fail)
 go_cut [5] (fun v5 wc => v5 = .int .i64 (pl : Int) ∧ Aside0 (wc.heap[w.heap.size]? = some (.cells #[.string s] 9 (0, 0))) ∧ Aside0 (Below w.heap.size w wc))
 case first =>
  rcases HZ.out with rfl | ⟨rfl, hd⟩
  ·
   have hp : ¬ ((pl : Int) < 0) := by omega
   go_wp2_with fail
   go_meet
   case rel => exact ⟨rfl, ⟨K2.out⟩, ⟨B2.out⟩⟩
  ·
   have hd1 : decide (z < 0) = true := decide_eq_true hd
   have hd2 := eq_true hd
   clear HZ
   go_wp2_with fail
   go_meet
   case rel => exact ⟨rfl, ⟨K2.out⟩, ⟨B2.out⟩⟩
 case rest =>
  clear HZ K2 B2 m1 lt2
  obtain ⟨rfl, K3, B3⟩ := hcut
  have m1 : wc.cell? ⟨w.heap.size, 0, none⟩ = some (.string s) := (blk_cell K3.out 0).trans rfl
  go_wp2_with fail
  refine start_ (n := 7) (S := fun w' : World => w'.cell? ⟨w.heap.size, 0, none⟩ = some (.string s)) (ds := []) #[false, false, false, false, false, false, false] (by kernel_rfl) rfl rfl m1 (fun hHeld => ?_)
  replace K3 := Aside0.mk (blk_drew K3.out)
  replace B3 := Aside0.mk (below_drew1 B3.out)
  generalize World.drew _ = w5 at hHeld K3 B3 ⊢
  clear m1
  refine pure_ (i := 0) (N := some 17) (v := ?_) (a' := ?_) #[true, false, false, false, false, false, false] rfl rfl (by kernel_rfl) (fun _ _ _ h => h) (Or.inl ⟨by rfl, ?_⟩) ?_ ?_
  rotate_left
  ·
   intro w'
   go_simp
   with_reducible rfl
  rotate_left
  ·
   simp only [Act.put, List.setIfInBounds_toArray, List.set_cons_zero, List.set_cons_succ, i64_w, i32_w]
   rfl
  refine pure_ (i := 2) (N := some 19) (v := ?_) (a' := ?_) #[true, false, true, false, false, false, false] rfl rfl (by kernel_rfl) (fun _ _ _ h => h) (Or.inl ⟨by rfl, ?_⟩) ?_ ?_
  rotate_left
  ·
   intro w'
   go_simp
   with_reducible rfl
  rotate_left
  ·
   simp only [Act.put, List.setIfInBounds_toArray, List.set_cons_zero, List.set_cons_succ, i64_w, i32_w]
   rfl
  refine take_ (i := 3) (N := some 20) (v := ?_) (a' := ?_) #[true, false, true, true, false, false, false] rfl rfl (by kernel_rfl) (fun _ _ _ h => h) (Or.inl ⟨by rfl, ?_⟩) hHeld ?_ ?_
  rotate_left
  ·
   rintro w' s0
   go_simp
   with_reducible rfl
  rotate_left
  ·
   simp only [Act.put, List.setIfInBounds_toArray, List.set_cons_zero, List.set_cons_succ, i64_w, i32_w]
   rfl
  have lt5 : w.heap.size < w5.heap.size := (Array.getElem?_eq_some_iff.1 K3.out).1
  refine join_ (σ := Value × Nat) 2 #[true, true, true, true, true, false, false] (fun q => [(18, q.1), (21, .slice (some ⟨q.2, 0, none⟩) 1 1)]) (fun q w' => w'.ownsRow (w.heap.size + 1) 9 1 q.1 l.length (l.map Value.string) ∧ w'.heap[q.2]? = some (.cells #[.string s] 9 (0, 0)) ∧ some q.2 ≠ q.1.ownBlock ∧ w.heap.size < q.2 ∧ w'.heap[w.heap.size]? = some (.cells #[.string s] 9 (0, 0)) ∧ Below w.heap.size w w') ?_ (fun hcont => ?_)
  rotate_left
  ·
   refine two_ (i := 1) (j := 4) (Ni := some 18) (Nj := some 21) #[true, true, true, true, false, false, false] #[true, false, true, true, true, false, false] rfl rfl rfl rfl (by kernel_rfl) (by decide) (by decide) (fun K hK => ?_) (fun K hK => ?_)
   ·
    refine goes_ Try.func83 (by kernel_rfl) rfl #[.slice A l.length c] (by rfl) rfl rfl (by (try simp only [List.map_toArray, List.map_cons, List.map_nil]); first | done | rfl) ?_
    refine (HCL.out _ B3.out).mono ?_
    rintro e w6 ⟨v6, rfl, hown, hb⟩
    refine ⟨_, rfl, ?_⟩
    have N1 := blk_below K3.out hb
    have NB := below_step B3.out hb
    have hs6 := hb.size
    refine hK.out _ _ ((blk_cell N1 0).trans rfl) (fun hHeld => ?_)
    clear hK K
    refine norm_ (a' := ?_) ?_ ?_
    rotate_left
    ·
     show Act.put _ (some 18) _ = _
     simp only [Act.put, List.setIfInBounds_toArray, List.set_cons_zero, List.set_cons_succ, i64_w, i32_w]
     rfl
    refine one_ (i := 4) (N := some 21) #[true, true, true, true, true, false, false] rfl rfl (by kernel_rfl) (by decide) (fun K hK => ?_)
    refine value_ (v := ?_) (w1 := ?_) (by rfl) rfl ?_ ?_
    rotate_left
    rotate_left
    ·
     go_simp
     first | rfl | (constructor <;> rfl)
    refine hK.out _ _ ((blk_cell (blk_alloc N1 _) 0).trans rfl) (fun hHeld => ?_)
    have hc := hcont (v6, w6.heap.size) _ ⟨(hown.alloc _).mono (by omega), blk_new _ _, fun h => by have := (hown.lt _ h.symm).2; omega, by show w.heap.size < w6.heap.size; omega, blk_alloc N1 _, NB.alloc NB.size _⟩
    refine norm_ ?_ hc
    simp only [putAll, Act.put, List.setIfInBounds_toArray, List.set_cons_zero, List.set_cons_succ, i64_w, i32_w]
    try rfl
   ·
    refine value_ (v := ?_) (w1 := ?_) (by rfl) rfl ?_ ?_
    rotate_left
    rotate_left
    ·
     go_simp
     first | rfl | (constructor <;> rfl)
    refine hK.out _ _ ((blk_cell (blk_alloc K3.out _) 0).trans rfl) (fun hHeld => ?_)
    clear hK K
    refine norm_ (a' := ?_) ?_ ?_
    rotate_left
    ·
     show Act.put _ (some 21) _ = _
     simp only [Act.put, List.setIfInBounds_toArray, List.set_cons_zero, List.set_cons_succ, i64_w, i32_w]
     rfl
    refine one_ (i := 1) (N := some 18) #[true, true, true, true, true, false, false] rfl rfl (by kernel_rfl) (by decide) (fun K hK => ?_)
    refine goes_ Try.func83 (by kernel_rfl) rfl #[.slice A l.length c] (by rfl) rfl rfl (by (try simp only [List.map_toArray, List.map_cons, List.map_nil]); first | done | rfl) ?_
    refine (HCL.out _ (B3.out.alloc B3.out.size _)).mono ?_
    rintro e w6 ⟨v6, rfl, hown, hb⟩
    refine ⟨_, rfl, ?_⟩
    have N1 := blk_below (blk_alloc K3.out _) hb
    have NV := blk_below (blk_new w5 _) hb
    have NB := below_step (B3.out.alloc B3.out.size _) hb
    refine hK.out _ _ ((blk_cell N1 0).trans rfl) (fun hHeld => ?_)
    have hc := hcont (v6, w5.heap.size) _ ⟨hown.mono (by simp; omega), NV, fun h => by have := (hown.lt _ h.symm).1; simp at this; omega, lt5, N1, NB⟩
    refine norm_ ?_ hc
    simp only [putAll, Act.put, List.setIfInBounds_toArray, List.set_cons_zero, List.set_cons_succ, i64_w, i32_w]
    try rfl
  clear hHeld K3 B3 lt5 w5
  rintro ⟨v6, vb⟩ w6 ⟨hown, hvb, hne, lvb, N1, NB⟩
  refine norm_ (a' := ?_) ?_ ?_
  rotate_left
  ·
   simp only [putAll, Act.put, List.setIfInBounds_toArray, List.set_cons_zero, List.set_cons_succ, i64_w, i32_w]
   rfl
  refine one_ (i := 5) (N := some 22) #[true, true, true, true, true, true, false] rfl rfl (by kernel_rfl) (by decide) (fun K hK => ?_)
  refine goes_ Try.func82 (by kernel_rfl) rfl #[v6, .int .i64 pl, .slice (some ⟨vb, 0, none⟩) 1 1] (by rfl) rfl rfl (by (try simp only [List.map_toArray, List.map_cons, List.map_nil]); first | done | rfl) ?_
  have lt6 : w.heap.size < w6.heap.size := (Array.getElem?_eq_some_iff.1 N1).1
  refine (insert_str (w.heap.size + 1) v6 l.length pl (l.map Value.string) [.string s] vb _ w6 hown hp3 rfl hvb hne (by omega) (by have := HL.out; omega) (by simp [Value.oneCell']) (by simp [Value.oneCell'])).mono ?_
  rintro e w7 ⟨v7, rfl, hown7, hgr⟩
  refine ⟨_, rfl, ?_⟩
  have R1 : w7.heap[w.heap.size]? = some (.cells #[.string s] 9 (0, 0)) := (hgr.block _ lt6 (fun h => by have := (hown.lt _ h.symm).1; omega)).trans N1
  have RB : Below w.heap.size w w7 := NB.grown hgr (by omega) (fun k hk => by have := (hown.lt k hk).1; omega)
  have e1 : (l.map Value.string).take pl ++ ([Value.string s] ++ (l.map Value.string).drop pl) = l0.map Value.string := by
   rw [← hl0, List.map_append, List.map_cons, List.map_take, List.map_drop]
   rfl
  have hown8 : w7.ownsRow w.heap.size 9 1 v7 (l.length + 1) (l0.map Value.string) := by
   rw [← e1]
   exact hown7.mono (by omega)
  clear hown7 e1
  refine hK.out _ _ ((blk_cell R1 0).trans rfl) (fun hHeld => ?_)
  clear hK K
  refine norm_ (a' := ?_) ?_ ?_
  rotate_left
  ·
   show Act.put _ (some 22) _ = _
   simp only [Act.put, List.setIfInBounds_toArray, List.set_cons_zero, List.set_cons_succ, i64_w, i32_w]
   rfl
  refine pure_ (i := 6) (N := some 4) (v := ?_) (a' := ?_) #[true, true, true, true, true, true, true] rfl rfl (by kernel_rfl) (fun _ _ _ h => h) (Or.inl ⟨by rfl, ?_⟩) ?_ ?_
  rotate_left
  ·
   intro w'
   go_simp
   with_reducible rfl
  rotate_left
  ·
   simp only [Act.put, List.setIfInBounds_toArray, List.set_cons_zero, List.set_cons_succ, i64_w, i32_w]
   rfl
  refine done_ (by kernel_rfl) ?_
  go_wp2_with fail
  go_ret
  exact ⟨_, rfl, hown8, RB⟩

set_option maxHeartbeats 8000000 in
set_option maxRecDepth 100000 in
theorem with_no (A : Option Addr) (c n : Nat) (s : ByteArray) (w : World)
  (hcon : ∀ w1 : World, Below w.heap.size w w1 → Calls Try.prog 53 #[.slice A n c, .string s] w1 fun e w' => e = .returned (.bool true) ∧ Below w1.heap.size w1 w') :
  Calls Try.prog 54 #[.slice A n c, .string s] w fun e w' => e = .returned (.slice A n c) ∧ Below w.heap.size w w' := by
 have HCON := Lib.hid hcon
 clear hcon
 go_enter Try.func54, Try.ntmps54
 go_wp2_with fail
 have B0 : Below w.heap.size w (w.alloc (.cells #[.string s] 9)) := (Below.refl _ _).alloc (Nat.le_refl _) _
 refine (HCON.out _ B0).mono ?_
 rintro e w1 ⟨rfl, hb⟩
 have B1 := Lib.hid (below_step B0 hb)
 clear hb B0 HCON
 go_wp2_with fail
 go_ret
 exact ⟨rfl, B1.out⟩
theorem V_strs {w : World} {b base : Nat} {v : Value} {l : List ByteArray} (h : w.ownsRow b 9 1 v l.length (l.map Value.string)) : Kd.V Kd.string 9 w base (fun k => b ≤ k) v l :=
 Kd.R_V (Kd.R_mono (Kd.R_bound (Kd.R_of_own h (fun _ _ => trivial) : Kd.R Kd.string 9 w b (fun _ => True) v l)) (fun k hk => hk.2.1))
theorem withS_len (l : List ByteArray) (s : ByteArray) (h : l.contains s = false) : (withS l s).length = l.length + 1 := by
 unfold withS insAt
 rw [h, if_neg (by decide)]
 have := (place_spec (fun x => strGt x s) l).2.2
 simp only [List.length_append, List.length_take, List.length_cons, List.length_drop]
 omega
theorem with_v (P : Nat → Prop) (A : Option Addr) (c : Nat) (l : List ByteArray) (s : ByteArray) (w : World) (hv : Kd.V Kd.string 9 w w.heap.size P (.slice A l.length c) l) (hlen : l.length * 16 + 16 ≤ 140737488355328)
  (hcon : ∀ w1 : World, Kd.C Kd.string w1 A l.length l → Calls Try.prog 53 #[.slice A l.length c, .string s] w1 fun e w' => e = .returned (.bool (l.contains s)) ∧ Below w1.heap.size w1 w') :
  Calls Try.prog 54 #[.slice A l.length c, .string s] w fun e w' => ∃ v : Value, e = .returned v ∧ Kd.V Kd.string 9 w' w.heap.size (fun k => P k ∨ w.heap.size ≤ k) v (withS l s) ∧ Below w.heap.size w w' := by
 obtain ⟨_, hcl, hF⟩ := Kd.V_at hv
 have hC : ∀ w1 : World, Below w.heap.size w w1 → Kd.C Kd.string w1 A l.length l := fun w1 hb => Kd.F_now (Kd.F_below hF hb)
 cases hn : l.contains s with
 | true =>
  refine (with_no A c l.length s w (fun w1 hb => by have := hcon w1 (hC w1 hb); rw [hn] at this; exact this)).mono ?_
  rintro e w' ⟨rfl, hb⟩
  refine ⟨_, rfl, ?_, hb⟩
  unfold withS
  rw [hn, if_pos rfl]
  exact ⟨A, c, rfl, hcl, Kd.F_mono (Kd.F_below hF hb) (fun k hk => .inl hk)⟩
 | false =>
  refine (with_c A c l s w (row_str hF) hlen hn (fun w1 hb => by have := hcon w1 (hC w1 hb); rw [hn] at this; exact this)).mono ?_
  rintro e w' ⟨v, rfl, ho, hb⟩
  rw [← withS_len l s hn] at ho
  exact ⟨v, rfl, Kd.V_mono (V_strs ho) (fun k hk => .inr hk), hb⟩
end Go.Proofs.Ytcbfnmabckjijaa.Si
