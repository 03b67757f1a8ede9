import Derived.RangeFuncNested
import Derived.RangeFuncBound
import Derived.RangeFuncCalls
import Derived.RangeFuncLeaves
import Derived.RangeFuncBox
import Derived.Shelf.Abstract
import Derived.Shelf.RegionOpen
import Derived.WalkKit
import Derived.OwnWalkIn
import Derived.TacticsInMore
import Derived.LoopNIn
import Derived.LoopIn
import Derived.Maps.AppendAt
import Derived.Lib.Hide
import Derived.BigQuiet
import Derived.Test.YtiknkkkfkifahaaProg
import Derived.Test.YtiknkkkfkifahaaWWords
import Derived.Test.YtiknkkkfkifahaaGw
/-
  paper.frames and paper.Read walked: a range over a function that reads frames, and collects records. By an AI agent.
-/
namespace Go.Proofs.Ytiknkkkfkifahaa.Sa
open Go.RowKit Go.Shelf
open Go.Proofs.YtiknkkkfkifahaaW.PrintWords
set_option linter.unusedVariables false
set_option linter.unusedSimpArgs false
attribute [local go_sem] Oper.semAt_some

/-- The frames of bytes from a place on: where each ends, its record. tk: what TakeText makes of bytes. -/
def frsO (sm : ByteArray → ByteArray) (tk : ByteArray → Option (ByteArray × ByteArray × Int)) (s : ByteArray) : Nat → Nat → Option (List (Nat × ByteArray))
  | 0, _ => none
  | m + 1, i => if i < s.size then (tk (s.extract i s.size)).bind fun r =>
        if r.2.2 = 0 then (if r.2.1.size < 4 then some [] else if r.1.size ≤ 140737488351232 ∧ r.2.1.size ≤ s.size ∧ i < s.size - r.2.1.size + 4 then (if ((sm r.1).extract 0 4).toList = (r.2.1.extract 0 4).toList then (frsO sm tk s m (s.size - r.2.1.size + 4)).map ((s.size - r.2.1.size + 4, r.1) :: ·) else some []) else none) else some []
      else some []

def TkC (tk : ByteArray → Option (ByteArray × ByteArray × Int)) : Prop := ∀ s r w, tk s = some r → Calls Try.prog 71 #[.string s, .int .i64 65536] w fun e w' => e = .returned (.tuple #[.string r.1, .string r.2.1, .int .i64 r.2.2]) ∧ Below w.heap.size w w'

/-- What a round keeps: what lay below n₀, and the block Bn. -/
def Kq (n₀ Bn : Nat) (A B : World) : Prop := Below n₀ A B ∧ B.heap[Bn]? = A.heap[Bn]?
theorem Kq.cell {n₀ Bn : Nat} {A B : World} (h : Kq n₀ Bn A B) : B.cell? ⟨Bn, 0, none⟩ = A.cell? ⟨Bn, 0, none⟩ := by simp [World.cell?, h.2]
theorem Kq.trans {n₀ Bn : Nat} {A B C : World} (h : Kq n₀ Bn A B) (k : Kq n₀ Bn B C) : Kq n₀ Bn A C := ⟨h.1.trans k.1, k.2.trans h.2⟩

def SmC (sm : ByteArray → ByteArray) : Prop := ∀ s w, s.size ≤ 140737488351232 → Calls Try.prog 49 #[.string s] w fun e w' => e = .returned (.string (sm s)) ∧ Below w.heap.size w w'

theorem grown_of {w w' : World} (h : Below w.heap.size w w') : w.grownBy w' none := ⟨h.os, h.tape, h.output, h.size, fun k hk _ => h.block k hk⟩

set_option maxRecDepth 100000 in
set_option maxHeartbeats 4000000 in
theorem frames1_in (sm : ByteArray → ByteArray) (hS : SmC sm) (hS4 : ∀ s, 4 ≤ (sm s).size) (tk : ByteArray → Option (ByteArray × ByteArray × Int)) (hT : TkC tk) (n : Nat) (hn : 1 ≤ n) (l Bn n₀ : Nat) (s : ByteArray) (hs : s.size ≤ 140737488351232) (xs : List (Nat × ByteArray)) (m0 : Nat) (hx : frsO sm tk s m0 0 = some xs) (W : World) (J Jx : List (Nat × ByteArray) → World → Prop) (hJ : AbidesFrom W.heap.size J)
    (hY : ∀ pre x W, J pre W → pre.length < xs.length → YieldAt Fence.wide (n - 1) Try.prog l #[.int .i64 (x : Nat × ByteArray).1, .string x.2] W fun e W' =>
      (e = .returned (.bool true) ∧ J (pre ++ [x]) W' ∧ Kq n₀ Bn W W') ∨ (e = .returned (.bool false) ∧ Jx (pre ++ [x]) W'))
    (hBn : W.cell? ⟨Bn, 0, none⟩ = some (.string s)) (h0 : J [] W) :
    CallsIn Fence.wide n Try.prog 70 #[.func (.yield l) #[] #[], .pointer (some ⟨Bn, 0, none⟩)] W fun e W' => (∃ v, e = .returned v) ∧
      ((∃ ys, ys = xs ∧ J ys W') ∨ (∃ pre, pre <+: xs ∧ Jx pre W')) := by
  have HT := Lib.hid hT
  have HS := Lib.hid hS
  have HJ := Lib.hid hJ
  have HY := Lib.hid hY
  clear hT hS hJ hY
  have e71 : Fence.wide.fn 71 := trivial
  have e49 : Fence.wide.fn 49 := trivial
  refine callsIn_of_wp Try.func70 rfl trivial ?_ rfl
  simp only [Try.ntmps70, List.size_toArray, List.length_cons, List.length_nil, Nat.reduceAdd, Nat.reduceSub, Array.replicate_succ, Array.replicate_zero, List.push_toArray, List.append_toArray, List.nil_append, List.cons_append]
  gi_wp2
  gi_loopw [3] (fun p wr => ∃ (pre rest : List (Nat × ByteArray)) (m i : Nat), p = .int .i64 i ∧ i ≤ s.size ∧ xs = pre ++ rest ∧ Aside0 (frsO sm tk s m i = some rest) ∧ wr.cell? ⟨Bn, 0, none⟩ = some (.string s) ∧ W.heap.size ≤ wr.heap.size ∧ Aside0 (J pre wr))
    (fun p _ => s.size - (intOf p).toNat)
  case atStart =>
    exact ⟨[], xs, m0, 0, rfl, Nat.zero_le _, rfl, ⟨hx⟩, hBn, Nat.le_refl _, ⟨h0⟩⟩
  case round =>
    clear h0 hx
    obtain ⟨pre, rest, m, i, rfl, hi, hxs, HF, hc, hsz, HJs⟩ := hrel
    cases m with
    | zero => exact absurd HF.out (by simp [frsO])
    | succ m =>
      have hf := HF.out
      clear HF
      rw [frsO] at hf
      by_cases h1 : i < s.size
      · rw [if_pos h1] at hf
        have d1 : decide ((i : Int) < (s.size : Int)) = true := decide_eq_true (by omega)
        have d2 : (i : Int) < (s.size : Int) := by omega
        have d3 := eq_true (show 0 ≤ (i : Int) by omega)
        have d4 := eq_true (show (i : Int) ≤ (s.size : Int) by omega)
        have tn : ((i : Int)).toNat = i := Int.toNat_natCast i
        obtain ⟨⟨rec, rst, e⟩, htk, hf⟩ := Option.bind_eq_some_iff.1 hf
        have HK := Lib.hid htk
        clear htk
        dsimp only at hf
        by_cases he : e = 0
        · rw [if_pos he] at hf
          have g1 : (e == 0) = true := by rw [he]; rfl
          have g2 : (e != 0) = false := by rw [he]; rfl
          clear he
          by_cases h4 : rst.size < 4
          · rw [if_pos h4] at hf
            obtain rfl := Option.some.inj hf
            have d5 : decide ((rst.size : Int) < 4) = true := decide_eq_true (by omega)
            have d6 : decide (rst.size < 4) = true := decide_eq_true h4
            clear hf
            gi_wp2_with (gi_at_call 71; refine (callsIn_wide.2 (HT.out _ _ _ HK.out)).mono ?_; rintro e' w1 ⟨rfl, hb⟩)
            have HB := Lib.hid hb
            clear hb
            refine wpIn_wide.2 ?_
            go_quiet (fail)
            gi_wp2
            refine bodyPost_ret (results_none rfl _ _ _) rfl ?_
            exact ⟨⟨_, rfl⟩, .inl ⟨_, rfl, by rw [hxs, List.append_nil]; exact HJ.out _ _ _ none HJs.out (grown_of (by repeat (first | exact HB.out | apply pw_below_drewN | apply below_drew1))) (fun r h => by cases h)⟩⟩
          · rw [if_neg h4] at hf
            by_cases hg : rec.size ≤ 140737488351232 ∧ rst.size ≤ s.size ∧ i < s.size - rst.size + 4
            · rw [if_pos hg] at hf
              have d5 : decide ((rst.size : Int) < 4) = false := decide_eq_false (by omega)
              have d6 : decide (rst.size < 4) = false := decide_eq_false h4
              have hS1 := HS.out rec
              have d7 := hS4 rec
              generalize sm rec = sr at hS1 d7 hf
              have d8 := eq_true (show (4 : Int) ≤ (sr.size : Int) by omega)
              have d9 := eq_true (show (4 : Int) ≤ (rst.size : Int) by omega)
              have HS1 := Lib.hid (fun w => hS1 w hg.1)
              clear hS1
              by_cases hq : (sr.extract 0 4).toList = (rst.extract 0 4).toList
              · rw [if_pos hq] at hf
                obtain ⟨rest', hf', rfl⟩ := Option.map_eq_some_iff.1 hf
                have g3 : ((sr.extract 0 4).toList == (rst.extract 0 4).toList) = true := beq_iff_eq.2 hq
                have g4 : ((sr.extract 0 4).toList != (rst.extract 0 4).toList) = false := bne_eq_false_iff_eq.2 hq
                have HF := Lib.hid hf'
                clear hf hf' hq
                gi_wp2_with (gi_at_call 71; refine (callsIn_wide.2 (HT.out _ _ _ HK.out)).mono ?_; rintro e' w1 ⟨rfl, hb⟩)
                have HB := Lib.hid hb
                clear hb
                refine wpIn_wide.2 ?_
                refine wp_region_below (by kernel_rfl) (by kernel_rfl) ?_
                repeat (go_big_quiet_step ((go_at_call 49; refine Calls.gw (HS1.out _))))
                refine wpQuiet_nil ?_
                rintro w3 ⟨⟨w3', hb3⟩, h3⟩
                replace h3 : w3 = w3' := h3
                subst h3
                have HB3 := Lib.hid (HB.out.trans (hb3.mono HB.out.size))
                have hJ3 : J pre w3 := HJ.out _ _ _ none HJs.out (grown_of HB3.out) (fun r h => by cases h)
                have hc3 : w3.cell? ⟨Bn, 0, none⟩ = some (.string s) := (HB3.out.cell (World.block_lt_of_cell? _ _ hc)).trans hc
                clear hb3 HB
                obtain ⟨fn, tmps, assign, body, hy, hR⟩ := HY.out pre (s.size - rst.size + 4, rec) w3 hJ3 (by rw [hxs]; simp)
                dsimp only at hy
                rw [show ((s.size - rst.size + 4 : Nat) : Int) = (s.size : Int) - (rst.size : Int) + 4 from by have := hg.2.1; omega] at hy
                have HHJ := Lib.hid hJ3
                clear hJ3
                gi_wp2
                refine hR.mono ?_
                rintro e'' W3 (⟨rfl, hJ4, hk4⟩ | ⟨rfl, hJx4⟩)
                · have hc4 : W3.cell? ⟨Bn, 0, none⟩ = some (.string s) := hk4.cell.trans hc3
                  have hsz4 : W.heap.size ≤ W3.heap.size := Nat.le_trans hsz (Nat.le_trans HB3.out.size hk4.1.size)
                  have HJ4 := Lib.hid hJ4
                  clear hJ4 hy hR
                  gi_wp2
                  go_roundw
                  case rel => exact ⟨pre ++ [(s.size - rst.size + 4, rec)], rest', m, s.size - rst.size + 4, by have := hg.2.1; congr 1; omega, by omega, by rw [hxs]; simp, ⟨HF.out⟩, hc4, hsz4, ⟨HJ4.out⟩⟩
                  case measure => have := hg.2.1; have := hg.2.2; have := hi; simp [intOf]; omega
                · gi_wp2
                  refine bodyPost_ret (results_none rfl _ _ _) rfl ?_
                  exact ⟨⟨_, rfl⟩, .inr ⟨pre ++ [(s.size - rst.size + 4, rec)], ⟨rest', by rw [hxs]; simp⟩, hJx4⟩⟩
              · rw [if_neg hq] at hf
                obtain rfl := Option.some.inj hf
                have g3 : ((sr.extract 0 4).toList == (rst.extract 0 4).toList) = false := beq_eq_false_iff_ne.2 hq
                have g4 : ((sr.extract 0 4).toList != (rst.extract 0 4).toList) = true := bne_iff_ne.2 hq
                clear hf hq
                gi_wp2_with (gi_at_call 71; refine (callsIn_wide.2 (HT.out _ _ _ HK.out)).mono ?_; rintro e' w1 ⟨rfl, hb⟩)
                have HB := Lib.hid hb
                clear hb
                refine wpIn_wide.2 ?_
                refine wp_region_below (by kernel_rfl) (by kernel_rfl) ?_
                repeat (go_big_quiet_step ((go_at_call 49; refine Calls.gw (HS1.out _))))
                refine wpQuiet_nil ?_
                rintro w3 ⟨⟨w3', hb3⟩, h3⟩
                replace h3 : w3 = w3' := h3
                subst h3
                gi_wp2
                refine bodyPost_ret (results_none rfl _ _ _) rfl ?_
                exact ⟨⟨_, rfl⟩, .inl ⟨_, rfl, by rw [hxs, List.append_nil]; exact HJ.out _ _ _ none HJs.out (grown_of (HB.out.trans (hb3.mono HB.out.size))) (fun r h => by cases h)⟩⟩
            · rw [if_neg hg] at hf
              cases hf
        · rw [if_neg he] at hf
          obtain rfl := Option.some.inj hf
          have g1 : (e == 0) = false := beq_eq_false_iff_ne.2 he
          have g2 : (e != 0) = true := bne_iff_ne.2 he
          clear he hf
          gi_wp2_with (gi_at_call 71; refine (callsIn_wide.2 (HT.out _ _ _ HK.out)).mono ?_; rintro e' w1 ⟨rfl, hb⟩)
          have HB := Lib.hid hb
          clear hb
          refine wpIn_wide.2 ?_
          go_quiet (fail)
          gi_wp2
          refine bodyPost_ret (results_none rfl _ _ _) rfl ?_
          exact ⟨⟨_, rfl⟩, .inl ⟨_, rfl, by rw [hxs, List.append_nil]; exact HJ.out _ _ _ none HJs.out (grown_of (by repeat (first | exact HB.out | apply pw_below_drewN | apply below_drew1))) (fun r h => by cases h)⟩⟩
      · rw [if_neg h1] at hf
        obtain rfl := Option.some.inj hf
        have d1 : decide ((i : Int) < (s.size : Int)) = false := decide_eq_false (by omega)
        have d2 : ¬ (i : Int) < (s.size : Int) := by omega
        gi_wp2
        go_end0
        exact ⟨⟨_, rfl⟩, .inl HJs.out⟩

theorem frames_in (n : Nat) (s : ByteArray) (w : World) :
    CallsIn Fence.wide n Try.prog 58 #[.string s] w fun e w' => e = .returned (.func (.func 70) #[] #[.pointer (some ⟨w.heap.size, 0, none⟩)]) ∧ w' = w.alloc (.cells #[.string s] 9) := by
  refine callsIn_of_wp Try.func58 rfl trivial ?_ rfl
  simp only [Try.ntmps58, List.size_toArray, List.length_cons, List.length_nil, Nat.reduceAdd, Nat.reduceSub, Array.replicate_succ, Array.replicate_zero, List.push_toArray, List.append_toArray, List.nil_append, List.cons_append]
  gi_wp2
  go_ret
  exact ⟨rfl, rfl⟩

theorem frames_stops (sm : ByteArray → ByteArray) (hS : SmC sm) (hS4 : ∀ s, 4 ≤ (sm s).size) (tk : ByteArray → Option (ByteArray × ByteArray × Int)) (hT : TkC tk) (n : Nat) (hn : 1 ≤ n) (Bn n₀ : Nat) (s : ByteArray) (hs : s.size ≤ 140737488351232) (xs : List (Nat × ByteArray)) (m0 : Nat) (hx : frsO sm tk s m0 0 = some xs) (w : World) (hBl : Bn < w.heap.size) (hc : w.cell? ⟨Bn, 0, none⟩ = some (.string s)) :
    SeqStopsK Fence.wide n Try.prog 70 #[.pointer (some ⟨Bn, 0, none⟩)] (fun x : Nat × ByteArray => #[Value.int .i64 x.1, .string x.2]) (Kq n₀ Bn) (fun ys => ys = xs) (fun pre => pre <+: xs) xs.length w := fun l J Jx W hW hJ _ hY h0 =>
  frames1_in sm hS hS4 tk hT n hn l Bn n₀ s hs xs m0 hx W J Jx hJ hY ((hW.cell (p := ⟨Bn, 0, none⟩) hBl).trans hc) h0

theorem appended2 {W w1 : World} {n₀ m₀ B : Nat} {t e : TypeId} {size : Nat} {v v' : Value} {k m : Nat} {xs ys : List Value} {tmp : Obj}
    (hv : Boxed W B t v) (hte : t ≠ e) (hrow : W.ownsRow m₀ e size v k xs) (hm : m₀ ≤ W.heap.size) (hn : n₀ ≤ m₀) (hB : n₀ ≤ B)
    (hown' : w1.ownsRow m₀ e size v' m ys) (hgrow : (W.alloc tmp).grownBy w1 v.ownBlock) :
    Boxed w1 B t v ∧ Boxed (w1.setCell ⟨B, 0, none⟩ v') B t v' ∧ (w1.setCell ⟨B, 0, none⟩ v').ownsRow m₀ e size v' m ys ∧ KeepsOthers W (w1.setCell ⟨B, 0, none⟩ v') ∧ Below n₀ W (w1.setCell ⟨B, 0, none⟩ v') ∧ Below m₀ W w1 := by
  have hv1 : Boxed w1 B t v := (hv.alloc tmp).kept hgrow (hv.not_row hte hrow)
  have hb : Below m₀ W w1 := ((Below.refl m₀ W).alloc hm tmp).grown hgrow (by simp; omega) fun j ej => by
    rcases hrow.2 with ⟨rfl, _⟩ | ⟨g, cap, cur, rfl, hb, _, _⟩
    · simp [Value.ownBlock] at ej
    · obtain rfl : g = j := by simpa [Value.ownBlock] using ej
      exact hb
  refine ⟨hv1, hv1.set v', hown'.kept (grownBy_setCell' w1 B v') (.inr (hv1.not_row hte hown').symm), ?_, (hb.mono hn).setCell (p := ⟨B, 0, none⟩) hB v', hb⟩
  refine ((KeepsOthers.alloc W tmp).trans (KeepsOthers.of_grownBy hgrow fun j o ej hj => ?_)).trans (KeepsOthers.setCell _ _ _)
  rcases (hrow.alloc tmp).2 with ⟨rfl, _⟩ | ⟨g, cap, cur, rfl, _, hgb, _⟩
  · simp [Value.ownBlock] at ej
  · obtain rfl : g = j := by simpa [Value.ownBlock] using ej
    rw [hgb] at hj; cases hj; rfl

theorem ownsRow_lower {W : World} {b b' e size n : Nat} {v : Value} {xs : List Value} (hb : b' ≤ b) (h : W.ownsRow b e size v n xs) : W.ownsRow b' e size v n xs := by
  refine ⟨h.1, ?_⟩
  rcases h.2 with h | ⟨g, cap, cur, hv, hg, rest⟩
  · exact .inl h
  · exact .inr ⟨g, cap, cur, hv, Nat.le_trans hb hg, rest⟩
theorem boxP_own {β : Type} (B : Nat) (t : TypeId) (f : β → Value) : Own (fun (s : β) W => Boxed W B t (f s)) := by
  rintro s X Y row hv hg hrow
  refine Boxed.kept hv hg (fun e => ?_)
  obtain ⟨o, ho, hc⟩ := hrow B e.symm
  rw [show X.heap[B]? = _ from hv] at ho
  cases ho
  cases hc
theorem size_own {β : Type} (B k : Nat) : OwnFrom B (fun (_ : β) W => k ≤ W.heap.size) := fun s X Y row h hg _ => Nat.le_trans h hg.size
theorem infoStr : (Try.prog.info? 9).map (fun i => (i.zero, i.size, i.bytes)) = some (some (.string ByteArray.empty), 1, 16) := by kernel_rfl
/-- where the last frame ends -/
def lastE (l : List (Nat × ByteArray)) : Nat := (l.getLast?.map (·.1)).getD 0
theorem lastE_snoc (pre : List (Nat × ByteArray)) (x : Nat × ByteArray) : lastE (pre ++ [x]) = x.1 := by simp [lastE]
def encR (l : List (Nat × ByteArray)) : List Value := l.map fun x => Value.string x.2

set_option maxRecDepth 100000 in
set_option maxHeartbeats 4000000 in
theorem read_in (sm : ByteArray → ByteArray) (hS : SmC sm) (hS4 : ∀ s, 4 ≤ (sm s).size) (tk : ByteArray → Option (ByteArray × ByteArray × Int)) (hT : TkC tk) (s : ByteArray) (hs : s.size ≤ 140737488351232) (xs : List (Nat × ByteArray)) (m0 : Nat) (hx : frsO sm tk s m0 0 = some xs) (hlen : xs.length ≤ 1000000000000) (w : World) :
    CallsIn Fence.wide 4 Try.prog 34 #[.string s] w fun e W' => ∃ v, e = .returned (.tuple #[v, .int .i64 (lastE xs)]) ∧ W'.ownsRow w.heap.size 9 1 v xs.length (encR xs) ∧ (v = .slice none 0 0 ↔ xs = []) ∧ Below w.heap.size w W' := by
  obtain ⟨i0, hi, hz0, hz1, hz2⟩ := info_parts infoStr
  have eF : Fence.wide.fn 58 := trivial
  have HST := Lib.hid (fun Bn n₀ w a b => frames_stops sm hS hS4 tk hT 3 (by decide) Bn n₀ s hs xs m0 hx w a b)
  clear hS hS4 hT hx
  refine callsIn_of_wp_marks Try.func34 rfl trivial ?_ rfl
  simp only [Try.ntmps34, List.size_toArray, List.length_cons, List.length_nil, Nat.reduceAdd, Nat.reduceSub, Array.replicate_succ, Array.replicate_zero, List.push_toArray, List.append_toArray, List.nil_append, List.cons_append]
  gi_wp2_with (gi_at_call 58; refine (frames_in _ _ _).mono ?_; rintro e w' ⟨rfl, rfl⟩)
  have bO := ((Boxed.new w 22 (.slice none 0 0)).alloc (.cells #[.int .i64 0] 3)).alloc (.cells #[.string s] 9)
  have bE := (Boxed.new (w.alloc (.cells #[.slice none 0 0] 22)) 3 (.int .i64 0)).alloc (.cells #[.string s] 9)
  have bS := Boxed.new ((w.alloc (.cells #[.slice none 0 0] 22)).alloc (.cells #[.int .i64 0] 3)) 9 (.string s)
  simp only [World.size_alloc] at bE bS
  have hB0 : Below w.heap.size w (((w.alloc (.cells #[.slice none 0 0] 22)).alloc (.cells #[.int .i64 0] 3)).alloc (.cells #[.string s] 9)) := (((Below.refl _ w).alloc (Nat.le_refl _) _).alloc (by simp) _).alloc (by simp; omega) _
  have hsz : (((w.alloc (.cells #[.slice none 0 0] 22)).alloc (.cells #[.int .i64 0] 3)).alloc (.cells #[.string s] 9)).heap.size = w.heap.size + 3 := by simp
  obtain ⟨W0, hW0⟩ : ∃ W0, (((w.alloc (.cells #[.slice none 0 0] 22)).alloc (.cells #[.int .i64 0] 3)).alloc (.cells #[.string s] 9)) = W0 := ⟨_, rfl⟩
  rw [hW0] at bO bE bS hB0 hsz ⊢
  refine wpIn_rangeFunc_ownG rfl (by decide) (gf := 70) (lb := #[.pointer (some ⟨w.heap.size + 1 + 1, 0, none⟩)]) rfl trivial (enters_of Try.func70 (by kernel_rfl) rfl)
    (HST.out (w.heap.size + 1 + 1) w.heap.size W0 (by omega) bS.cell) (fun h k => h.trans k) (fun W l o o' hl h _ _ => ⟨belowK_b (w := W0) (by omega) W l o o' hl h ‹_› ‹_›, World.putObj_heap_other (by omega)⟩) (Below.refl _ _) (fun _ => rfl)
    (fun pre W => (∃ v, Boxed W w.heap.size 22 v ∧ W.ownsRow (w.heap.size + 3) 9 1 v pre.length (encR pre) ∧ (v = .slice none 0 0 ↔ pre = [])) ∧ (Boxed W (w.heap.size + 1) 3 (.int .i64 (lastE pre)) ∧ Below w.heap.size w W ∧ w.heap.size + 3 ≤ W.heap.size))
    (fun _ _ _ => False)
    ?hI (fun _ _ _ _ _ hs _ _ => hs)
    ⟨⟨_, bO, World.ownsRow_nil _ _ _ _, by simp⟩, bE, hB0, by omega⟩
    (fun x => { tmps := #[.string s, undef, .slice none 0 0, .int .i64 0, .pointer (some ⟨w.heap.size, 0, none⟩), .pointer (some ⟨w.heap.size + 1, 0, none⟩), .int .i64 x.1, .string x.2, .string s, .func (.func 70) #[] #[.pointer (some ⟨w.heap.size + 1 + 1, 0, none⟩)], .int .i64 x.1, .string x.2, undef, undef, undef, undef, undef, undef, undef], defers := [] }) ?assign ?body ?done ?stop
  case hI =>
    refine OwnFrom.and (Own.from (holdsRow_own (w.heap.size + 3) w.heap.size 22 9 1 (fun pre : List (Nat × ByteArray) => pre.length) encR (fun pre v => v = .slice none 0 0 ↔ pre = [])) _) ?_
    exact OwnFrom.and (Own.from (boxP_own (w.heap.size + 1) 3 (fun pre : List (Nat × ByteArray) => .int .i64 (lastE pre))) _) (OwnFrom.and (ownFrom_below (by omega) (by omega)) (size_own _ _))
  case assign =>
    intro l x W K hK
    gi_wp2
    exact hK
  case body =>
    rintro l pre x W ⟨⟨v, hv, hrow, hnil⟩, hE, hB, hS3⟩ hlt
    have hc := hv.cell
    have hec := hE.cell
    have hml : pre.length + 1 ≤ maxLen := by unfold maxLen; omega
    have hml2 : (pre.length + 1) * 16 ≤ 140737488355328 := by omega
    have hef := hE.frozen
    gi_wp2_with (gi_at_builtin; refine wpListIn_append_own _ rfl _ _ 22 rfl (w.heap.size + 3) 9 i0 (.string ByteArray.empty) 1 16 Try.underlying22 hi hz0 hz1 hz2 rfl (by decide) _ _ _ rfl (hrow.alloc _) ⟨W.heap.size, 0, none⟩ 1 1 [.string x.2] rfl rfl (cell_one_new _ _ _) (by simp [Value.oneCell']) hml hml2 (by simp; omega) ?_; intro v' w1 hown' hgrow _; obtain ⟨g', cap', rfl⟩ := ownsRow_succ hown'; obtain ⟨hv1, hv2, hr2, hk2, hb2, hb3⟩ := appended2 hv (by decide) hrow hS3 (by omega) (Nat.le_refl _) hown' hgrow; have hc1 := hv1.cell; have hf1 := hv1.frozen; have hE1 : Boxed w1 (w.heap.size + 1) 3 (.int .i64 (lastE pre)) := (hb3.block _ (by omega)).trans hE; have hE2 : Boxed (w1.setCell ⟨w.heap.size, 0, none⟩ (.slice (some ⟨g', 0, none⟩) (pre.length + 1) cap')) (w.heap.size + 1) 3 (.int .i64 (lastE pre)) := (Below.heap_setCell _ _ _ _ (by simp)).trans hE1; have hec2 := hE2.cell; have hef2 := hE2.frozen)
    have hg2 := grownBy_setCell' (w1.setCell ⟨w.heap.size, 0, none⟩ (.slice (some ⟨g', 0, none⟩) (pre.length + 1) cap')) (w.heap.size + 1) (.int .i64 x.1)
    have hb4 := hb2.setCell (p := ⟨w.heap.size + 1, 0, none⟩) (by show w.heap.size ≤ w.heap.size + 1; omega) (.int .i64 x.1)
    refine ⟨(hk2.trans (KeepsOthers.setCell _ _ _)).from _, ⟨hb4, ?_⟩, ⟨⟨_, hv2.other (by omega) _, ?_, by simp⟩, ?_, hB.trans hb4, Nat.le_trans hS3 hb4.size⟩⟩
    · exact (Below.heap_setCell _ _ _ _ (by show w.heap.size + 1 + 1 ≠ _; simp)).trans ((Below.heap_setCell _ _ _ _ (by show w.heap.size + 1 + 1 ≠ w.heap.size; omega)).trans (hb3.block _ (by omega)))
    · have e1 : encR (pre ++ [x]) = encR pre ++ [Value.string x.2] := by simp [encR]
      rw [e1, List.length_append]
      exact hr2.kept hg2 (.inr (hE2.not_row (by decide) hr2).symm)
    · rw [lastE_snoc]
      exact hE2.set _
  case done =>
    rintro D ys W hD rfl ⟨⟨v, hv, hrow, hnil⟩, hE, hB, hS3⟩ hK
    have hc := hv.cell
    have hc2 := hE.cell
    gi_wp2
    refine wpIn_wide.2 ?_
    go_quiet (fail)
    gi_wp2
    refine ⟨by simp, .inl ⟨_, _, rfl, run_takeDeferred (show (W.drewN nq).heap[D]? = _ from hK), ?_⟩⟩
    refine ⟨_, by simp [results, Try.results34, go_sem], v, rfl, ownsRow_putObj (ownsRow_lower (by omega) (show (W.drewN nq).ownsRow _ _ _ _ _ _ from hrow)) _ (show (W.drewN nq).heap[D]? = _ from hK) rfl, hnil, ?_⟩
    exact (pw_below_drewN hB nq).trans (belowK_b (w := w) (Nat.le_refl _) (W.drewN nq) D _ _ (by have := hB0.size; omega) (show (W.drewN nq).heap[D]? = _ from hK) rfl rfl)
  case stop =>
    rintro D c pre W _ _ h _
    exact h.elim

theorem frsO_mono (sm : ByteArray → ByteArray) (tk tk' : ByteArray → Option (ByteArray × ByteArray × Int)) (s : ByteArray) (h : ∀ s r, tk s = some r → tk' s = some r) : ∀ (m m' i : Nat) (r : List (Nat × ByteArray)), m ≤ m' → frsO sm tk s m i = some r → frsO sm tk' s m' i = some r
  | 0, _, _, _, _, hr => by simp [frsO] at hr
  | m + 1, m', i, r, hm, hr => by
    obtain ⟨m2, rfl⟩ : ∃ m2, m' = m2 + 1 := ⟨m' - 1, by omega⟩
    rw [frsO] at hr ⊢
    by_cases h1 : i < s.size
    · rw [if_pos h1] at hr ⊢
      obtain ⟨q, hq, hr⟩ := Option.bind_eq_some_iff.1 hr
      rw [h _ _ hq, Option.bind_some]
      by_cases h2 : q.2.2 = 0
      · rw [if_pos h2] at hr ⊢
        by_cases h3 : q.2.1.size < 4
        · rw [if_pos h3] at hr ⊢; exact hr
        · rw [if_neg h3] at hr ⊢
          by_cases h4 : q.1.size ≤ 140737488351232 ∧ q.2.1.size ≤ s.size ∧ i < s.size - q.2.1.size + 4
          · rw [if_pos h4] at hr ⊢
            by_cases h5 : ((sm q.1).extract 0 4).toList = (q.2.1.extract 0 4).toList
            · rw [if_pos h5] at hr ⊢
              obtain ⟨l, hl, e⟩ := Option.map_eq_some_iff.1 hr
              rw [frsO_mono sm tk tk' s h m m2 _ l (by omega) hl, ← e]
              rfl
            · rw [if_neg h5] at hr ⊢; exact hr
          · rw [if_neg h4] at hr; cases hr
      · rw [if_neg h2] at hr ⊢; exact hr
    · rw [if_neg h1] at hr ⊢; exact hr
theorem read_c (sm : ByteArray → ByteArray) (hS : SmC sm) (hS4 : ∀ s, 4 ≤ (sm s).size) (tk : ByteArray → Option (ByteArray × ByteArray × Int)) (hT : TkC tk) (s : ByteArray) (hs : s.size ≤ 140737488351232) (xs : List (Nat × ByteArray)) (m0 : Nat) (hx : frsO sm tk s m0 0 = some xs) (hlen : xs.length ≤ 1000000000000) (w : World) :
    Calls Try.prog 34 #[.string s] w fun e w' => ∃ v0_ : Value, e = .returned (.tuple #[v0_, .int .i64 (lastE xs)]) ∧ Kd.R Kd.string 9 w' w.heap.size (fun _ => True) v0_ (xs.map (·.2)) ∧ Below w.heap.size w w' := by
  refine (callsIn_wide.1 (read_in sm hS hS4 tk hT s hs xs m0 hx hlen w)).mono ?_
  rintro e w' ⟨v, rfl, ho, _, hb⟩
  have e2 : encR xs = (xs.map (·.2)).map Value.string := by simp [encR]
  rw [e2] at ho
  have hl : xs.length = (xs.map (·.2)).length := by simp
  rw [hl] at ho
  exact ⟨v, rfl, Kd.R_of_own ho (fun _ _ => trivial), hb⟩
end Go.Proofs.Ytiknkkkfkifahaa.Sa
