import Derived.Test.YtopijobdblfhoaaGreatVTuskChainsRg
import Derived.Test.YtopijobdblfhoaaGreatVTuskChainsFj
import Derived.WalkKit
import Derived.OwnWalkIn
import Derived.TacticsInMore
import Derived.LoopNIn
import Derived.LoopIn
import Derived.BigQuiet
set_option linter.unusedVariables false
set_option linter.unusedSimpArgs false
/- Trimmed by a program. By an AI agent. -/
namespace Go.Proofs.YtopijobdblfhoaaGreat.Si
open Go.RowKit Go.Lib Go.Proofs.YtopijobdblfhoaaGreatW.PrintWords Go.Proofs.YtopijobdblfhoaaGreatW.PrintLast Go.Proofs.YtopijobdblfhoaaGreatW.PrintMore
attribute [local go_sem] Oper.semAt_some
structure DX where
 d : ByteArray
 ro : Int
 ps : List ByteArray
def PE (W : World) (r : ER) (x : DX) : Prop := r.d = x.d ∧ r.ro = x.ro ∧ r.n4 = x.ps.length ∧ Qgc W r.A4 x.ps
def PEs (W : World) : List ER → List DX → Prop
 | [], [] => True
 | r :: rs, x :: xs => PE W r x ∧ PEs W rs xs
 | _, _ => False
theorem PEs.len {W : World} : ∀ {rs : List ER} {xs : List DX}, PEs W rs xs → rs.length = xs.length
 | [], [], _ => rfl
 | r :: rs, x :: xs, h => by simp [PEs.len h.2]
 | [], x :: xs, h => h.elim
 | r :: rs, [], h => h.elim
theorem PEs.imp {W W' : World} (hi : ∀ A l, Qgc W A l → Qgc W' A l) : ∀ {rs : List ER} {xs : List DX}, PEs W rs xs → PEs W' rs xs
 | [], [], _ => trivial
 | r :: rs, x :: xs, h => ⟨⟨h.1.1, h.1.2.1, h.1.2.2.1, hi _ _ h.1.2.2.2⟩, PEs.imp hi h.2⟩
 | [], x :: xs, h => h.elim
 | r :: rs, [], h => h.elim
theorem PEs.get {W : World} : ∀ {rs : List ER} {xs : List DX} (_ : PEs W rs xs) (i : Nat) (r : ER) (x : DX), rs[i]? = some r → xs[i]? = some x → PE W r x
 | [], [], _, i, r, x, h1, _ => by simp at h1
 | r :: rs, x :: xs, h, 0, r', x', h1, h2 => by
  have e1 : r = r' := by simpa using h1
  have e2 : x = x' := by simpa using h2
  subst e1; subst e2; exact h.1
 | r :: rs, x :: xs, h, i + 1, r', x', h1, h2 => PEs.get h.2 i r' x' (by simpa using h1) (by simpa using h2)
 | [], x :: xs, h, _, _, _, _, _ => h.elim
 | r :: rs, [], h, _, _, _, _, _ => h.elim
def downO (rnd : Int → List DX) : Nat → Int → Option (List Int)
 | 0, _ => none
 | m + 1, r => if (rnd r).length = 0 then some [] else (downO rnd m (wrap64 (r - 1))).map (r :: ·)
theorem Qd1 (rnd : Int → List DX) : ∀ (m M : Nat) (r : Int) (l : List Int), m ≤ M → downO rnd m r = some l → downO rnd M r = some l
 | 0, _, _, _, _, h => by simp [downO] at h
 | m + 1, M, r, l, hM, h => by
  obtain ⟨M', rfl⟩ : ∃ M', M = M' + 1 := ⟨M - 1, by omega⟩; rw [downO] at h ⊢; split
  ·
   rename_i hz; rw [if_pos hz] at h; exact h
  ·
   rename_i hz
   rw [if_neg hz] at h; obtain ⟨q, hq, e⟩ := Option.map_eq_some_iff.1 h; rw [Qd1 rnd m M' _ q (by omega) hq, ← e]; rfl
structure YE where
 r : Int
 A : Option Addr
 c : Nat
 rs : List ER
def encY (x : YE) : Array Value := #[.int .i64 x.r, .slice x.A x.rs.length x.c]
def RdY (rnd : Int → List DX) (x : YE) (W : World) : Prop := Rowentry W x.A x.rs ∧ PEs W x.rs (rnd x.r)
def KpD (n₀ Bd Bf : Nat) (A B : World) : Prop := Below n₀ A B ∧ B.heap[Bd]? = A.heap[Bd]? ∧ B.heap[Bf]? = A.heap[Bf]?
theorem KpD.trans {n₀ Bd Bf : Nat} {A B C : World} (h : KpD n₀ Bd Bf A B) (k : KpD n₀ Bd Bf B C) : KpD n₀ Bd Bf A C := ⟨h.1.trans k.1, k.2.1.trans h.2.1, k.2.2.trans h.2.2⟩
set_option maxRecDepth 100000 in
set_option maxHeartbeats 4000000 in
theorem Qis (n : Nat) (hn : 1 ≤ n) (Bf Bd n₀ : Nat) (fr nn low : Int) (A : Option Addr) (c rn : Nat) (rnd : Int → List DX) (w : World) (hn0 : n₀ ≤ w.heap.size)
  (hRd : ∀ (r : Int) (w1 : World), Below n₀ w w1 → Calls Tryz.prog 34 #[.agg #[.int .i64 nn, .int .i64 low, .slice A rn c], .int .i64 r] w1 fun e w' => ∃ A' c' rs', e = .returned (.slice A' (rs' : List ER).length c') ∧ Rowentry w' A' rs' ∧ PEs w' rs' (rnd r) ∧ Below w1.heap.size w1 w')
  (hBf : w.heap[Bf]? = some (.cells #[.int .i64 fr] 3 (0, 0))) (hBd : w.heap[Bd]? = some (.cells #[.int .i64 nn, .int .i64 low, .slice A rn c] 24 (0, 0)))
  (m0 : Nat) (rl : List Int) (hx : downO rnd m0 fr = some rl) :
  Qku n Tryz.prog 102 #[.pointer (some ⟨Bf, 0, none⟩), .pointer (some ⟨Bd, 0, none⟩)] encY (RdY rnd) (KpD n₀ Bd Bf) (fun ys => ys.map (·.r) = rl) rl.length w := by
 intro l J W hW hJ hY h0; have HR := Lib.hid hRd; have HJ := Lib.hid hJ; have HY := Lib.hid hY; clear hRd hJ hY; have e70 : Fence.wide.fn 34 := trivial; have hBfW : W.cell? ⟨Bf, 0, none⟩ = some (.int .i64 fr) := (Qaa (hW.2.2.trans hBf) 0).trans rfl; have ltF : Bf < w.heap.size := (Array.getElem?_eq_some_iff.1 hBf).1; have HNW := Lib.hid hW.1.size; refine callsIn_of_wp Tryz.func102 rfl trivial ?_ rfl; simp only [Tryz.ntmps102, List.size_toArray, List.length_cons, List.length_nil, Nat.reduceAdd, Nat.reduceSub, Array.replicate_succ, Array.replicate_zero, List.push_toArray, List.append_toArray, List.nil_append, List.cons_append]
 gi_wp2
 gi_loopw [4] (fun p wr => ∃ (pre : List YE) (rest : List Int) (m : Nat) (r : Int), p = .int .i64 r ∧ m ≤ m0 ∧ Qan (downO rnd m r = some rest) ∧ Qan (pre.map (·.r) ++ rest = rl) ∧ Qan (KpD n₀ Bd Bf w wr) ∧ Qan (W.heap.size ≤ wr.heap.size) ∧ Qan (J pre wr))
  (fun p _ => ((downO rnd m0 (RowKit.intOf p)).getD []).length)
 case atStart =>
  exact ⟨[], rl, m0, fr, rfl, Nat.le_refl _, ⟨hx⟩, ⟨rfl⟩, ⟨hW⟩, ⟨Nat.le_refl _⟩, ⟨h0⟩⟩
 case round =>
  clear h0 hx; obtain ⟨pre, rest, m, r, rfl, hm, HF, HL, HK, HS, HJs⟩ := hrel; have kD : wr.heap[Bd]? = some (.cells #[.int .i64 nn, .int .i64 low, .slice A rn c] 24 (0, 0)) := HK.out.2.1.trans hBd; have hc0 : wr.cell? ⟨Bd, 0, none⟩ = some (.int .i64 nn) := (Qaa kD 0).trans rfl; have hc1 : wr.cell? ⟨Bd, 1, none⟩ = some (.int .i64 low) := (Qaa kD 1).trans rfl; have hc2 : wr.cell? ⟨Bd, 2, none⟩ = some (.slice A rn c) := (Qaa kD 2).trans rfl
  cases m with
  | zero => exact absurd HF.out (by simp [downO])
  | succ m =>
   have hf := HF.out; clear HF; have hmu : (downO rnd m0 r).getD [] = rest := by rw [Qd1 rnd (m + 1) m0 r rest hm hf]; rfl
   rw [downO] at hf
   by_cases hz : (rnd r).length = 0
   ·
    rw [if_pos hz] at hf; obtain rfl := Option.some.inj hf; clear hf hmu
    gi_wp2_with (gi_at_call 34; refine (callsIn_wide.2 (HR.out _ _ HK.out.1)).mono ?_; rintro e' w1 ⟨A', c', rs', rfl, hrow, hpe, hb⟩; obtain rfl : rs' = [] := List.eq_nil_of_length_eq_zero (by rw [hpe.len]; exact hz); have HB := Lib.hid hb; clear hb hrow hpe; have hz0 : (((([] : List ER).length : Nat) : Int) == 0) = true := rfl)
    refine ⟨fun f h => (by cases h), ?_⟩
    gi_wp2
    first | (go_end0; exact ⟨⟨_, rfl⟩, pre, (List.append_nil _).symm.trans HL.out, HJ.out _ _ _ HJs.out HB.out⟩) | refine bodyPost_ret (results_none rfl _ _ _) rfl ?_
    exact ⟨⟨_, rfl⟩, pre, (List.append_nil _).symm.trans HL.out, HJ.out _ _ _ HJs.out HB.out⟩
   ·
    rw [if_neg hz] at hf; obtain ⟨rest', hf', rfl⟩ := Option.map_eq_some_iff.1 hf; have HF := Lib.hid hf'; have HM := Lib.hid hmu; clear hf hf' hmu
    gi_wp2_with (gi_at_call 34; refine (callsIn_wide.2 (HR.out _ _ HK.out.1)).mono ?_; rintro e' w1 ⟨A', c', rs', rfl, hrow, hpe, hb⟩; have hz0 : (((rs'.length : Nat) : Int) == 0) = false := beq_eq_false_iff_ne.2 (by rw [hpe.len]; omega); have HB := Lib.hid hb; have HRY : Hid (RdY rnd ⟨r, A', c', rs'⟩ w1) := Lib.hid ⟨hrow, hpe⟩; clear hb hrow hpe; have hJ3 := HJ.out _ _ _ HJs.out HB.out; obtain ⟨fn, tmps, assign, body, hy, hR⟩ := HY.out pre ⟨r, A', c', rs'⟩ w1 hJ3 HRY.out (by rw [← HL.out]; simp); dsimp only [encY] at hy; clear hJ3)
    refine hR.mono ?_; rintro e'' W3 ⟨rfl, hJ4, hk4⟩; have HK4 := Lib.hid ((HK.out.trans ⟨HB.out.mono (Nat.le_trans hn0 (Nat.le_trans HNW.out HS.out)), HB.out.block _ (Array.getElem?_eq_some_iff.1 kD).1, HB.out.block _ (Nat.lt_of_lt_of_le ltF HK.out.1.size)⟩).trans hk4); have HJ4 := Lib.hid hJ4; have HS4 := Lib.hid (Nat.le_trans HS.out (Nat.le_trans HB.out.size hk4.1.size)); clear hJ4 hk4 hy hR
    gi_wp2
    go_roundw
    case rel => exact ⟨pre ++ [⟨r, A', c', rs'⟩], rest', m, wrap64 (r - 1), rfl, by omega, ⟨HF.out⟩, ⟨by rw [← HL.out]; simp⟩, ⟨HK4.out⟩, ⟨HS4.out⟩, ⟨HJ4.out⟩⟩
    case measure =>
     show ((downO rnd m0 (wrap64 (r - 1))).getD []).length < ((downO rnd m0 r).getD []).length; rw [HM.out, Qd1 rnd m m0 _ _ (by omega) HF.out]; simp
end Go.Proofs.YtopijobdblfhoaaGreat.Si
