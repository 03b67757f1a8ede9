import Derived.Test.YtcbfnmabckjijaaVOrderTurnsSi
import Derived.Test.YtcbfnmabckjijaaProg
import Derived.Lib.SliceRun
import Derived.Lib.Walk
import Derived.Deep.AppendLies
import Derived.Deep.LoopGhost
import Derived.Lib.Hide
import Derived.BigQuiet
import Derived.Test.YtcbfnmabckjijaaVOrderTurnsWMore
/- Trimmed by a program. By an AI agent. -/
namespace Go.Proofs.Ytcbfnmabckjijaa.Si
open Go.RowKit Go.Lib Go.Proofs.YtcbfnmabckjijaaW.PrintWords Go.Proofs.YtcbfnmabckjijaaW.PrintLast Go.Proofs.YtcbfnmabckjijaaW.PrintMore
set_option linter.unusedVariables false
set_option linter.unusedSimpArgs false

theorem info_int : (Try.prog.info? 3).map (fun i => (i.zero, i.size, i.bytes)) = some (some (Value.int .i64 0), 1, 8) := by kernel_rfl
set_option maxHeartbeats 4000000 in
set_option maxRecDepth 100000 in
theorem clone_int (A : Option Addr) (n c : Nat) (news : List Value) (w : World) (hl : news.length = n) (hA : A = none → n = 0) (hbig : n * 8 ≤ 140737488355328)
  (hc : ∀ a, A = some a → ∀ j u, news[j]? = some u → w.cell? (a.add j) = some u) (h1 : ∀ u ∈ news, u.oneCell' = true) :
  Calls Try.prog 44 #[.slice A n c] w fun e w' => ∃ v', e = .returned v' ∧ w'.ownsRow w.heap.size 3 1 v' n news ∧ Below w.heap.size w w' := by
 have q22 : ∀ (w : World) (a : Option Addr) (n c n' c' : Nat), (binOp .eql 52 (.slice a n c) (.slice none n' c')).run Try.prog w = .ok (.bool a.isNone) w := fun w a n c n' c' => Lib.run_eql_slice_nil w _ _ a n c n' c' Try.underlying52
 obtain ⟨i0, hi0, hz0, hz1, hz2⟩ := info_parts info_int
 have HC : Aside (∀ a, A = some a → ∀ j u, news[j]? = some u → w.cell? (a.add j) = some u) := hc
 clear hc
 cases A with
 | none =>
  have hn := hA rfl
  subst hn
  have hnews : news = [] := List.eq_nil_of_length_eq_zero (by simpa using hl)
  subst hnews
  clear HC hA hl hbig h1
  go_enter Try.func44, Try.ntmps44
  go_wp2
  go_ret
  exact ⟨_, rfl, World.ownsRow_nil _ _ _ _, Below.refl _ _⟩
 | some ad =>
  go_enter Try.func44, Try.ntmps44
  go_wp2_with (at_builtin; refine wpList_append_own _ rfl _ _ 52 rfl w.heap.size 3 i0 (Value.int .i64 0) 1 8 Try.underlying52 hi0 hz0 hz1 hz2 rfl (by decide) _ _ _ rfl (World.ownsRow_made w #[] 0 (Nat.le_refl _) (Nat.zero_le _) (by simp)) ad n c news rfl ?qc1 ?qc2 ?qc3 ?qc4 ?qc5 ?qc6 ?_)
  case qc1 => omega
  case qc2 =>
   intro j u hj
   exact Lib.cell?_alloc_some _ (HC.out ad rfl j u hj)
  case qc3 => exact h1
  case qc4 => rw [Nat.zero_add]; unfold maxLen; omega
  case qc5 => rw [Nat.zero_add]; exact hbig
  case qc6 => simp
  intro v' w1 hown hgrow hnil
  go_wp2
  go_ret
  exact ⟨v', rfl, by simpa using hown, ((Below.refl _ w).alloc (Nat.le_refl _) _).grown hgrow (by simp) (by intro k hk; simp [Value.ownBlock] at hk; omega)⟩

set_option maxHeartbeats 4000000 in
set_option maxRecDepth 100000 in
theorem insert_int_end (base : Nat) (v : Value) (n : Nat) (cs : List Value) (x : List Value) (vb : Nat) (tV : TypeId) (w : World) (hown : w.ownsRow base 3 1 v n cs)
  (hx : x.length = 1) (hv : w.heap[vb]? = some (.cells x.toArray tV (0, 0))) (hB : base ≤ w.heap.size) (hbig : (n + 1) * 8 ≤ 140737488355328) (h1 : ∀ u ∈ x, u.oneCell' = true) :
  Calls Try.prog 43 #[v, .int .i64 n, .slice (some ⟨vb, 0, none⟩) 1 1] w fun e w' => ∃ v', e = .returned v' ∧ w'.ownsRow base 3 1 v' (n + 1) (cs ++ x) ∧ w.grownBy w' v.ownBlock := by
 obtain ⟨i0, hi0, hz0, hz1, hz2⟩ := info_parts info_int
 have HV : Aside (∀ j u, x[j]? = some u → w.cell? ((⟨vb, 0, none⟩ : Addr).add j) = some u) := by
  intro j u hj
  exact World.news_of_block hv j u (by simpa using hj)
 have HO : Aside (w.ownsRow base 3 1 v n cs) := hown
 have hc := hown.2
 clear hv hown
 rcases hc with ⟨rfl, rfl⟩ | ⟨g, cap, cur, rfl, hbg, hg, hnc, hcm, hcs, htake⟩
 ·
  go_enter Try.func43, Try.ntmps43
  go_wp2_with (at_builtin; refine wpList_append_own _ rfl _ _ 52 rfl base 3 i0 (Value.int .i64 0) 1 8 Try.underlying52 hi0 hz0 hz1 hz2 rfl (by decide) _ _ _ rfl HO.out ⟨vb, 0, none⟩ 1 1 x rfl ?qc1 ?qc2 ?qc3 ?qc4 ?qc5 ?qc6 ?_)
  case qc1 => rw [hx]; try omega
  case qc2 => exact HV.out
  case qc3 => exact h1
  case qc4 => unfold maxLen; omega
  case qc5 => exact hbig
  case qc6 => exact hB
  intro v' w1 hown hgrow hnil
  go_wp2
  go_ret
  exact ⟨v', rfl, hown, hgrow⟩
 ·
  have hc63 : cap ≤ 9223372036854775807 := by unfold maxLen at hcm; omega
  clear hg hcs htake hcm
  go_enter Try.func43, Try.ntmps43
  go_wp2_with (at_builtin; refine wpList_append_own _ rfl _ _ 52 rfl base 3 i0 (Value.int .i64 0) 1 8 Try.underlying52 hi0 hz0 hz1 hz2 rfl (by decide) _ _ _ rfl HO.out ⟨vb, 0, none⟩ 1 1 x rfl ?qc1 ?qc2 ?qc3 ?qc4 ?qc5 ?qc6 ?_)
  case qc1 => rw [hx]; try omega
  case qc2 => exact HV.out
  case qc3 => exact h1
  case qc4 => unfold maxLen; omega
  case qc5 => exact hbig
  case qc6 => exact hB
  all_goals
   intro v' w1 hown hgrow hnil
   go_wp2
   go_ret
   exact ⟨v', rfl, hown, hgrow⟩

set_option maxHeartbeats 4000000 in
set_option maxRecDepth 100000 in
theorem insert_int_room (g cap : Nat) (cur : Array Value) (n i : Nat) (P T : List Value) (x : List Value) (vb : Nat) (tV : TypeId) (w : World) (hg : w.heap[g]? = some (.cells cur 3 (0, 0)))
  (hi : i < n) (hroom : n + 1 ≤ cap) (hcm : cap ≤ maxLen) (hcs : cur.size = cap) (htake : cur.toList.take (n) = P ++ T) (hP : P.length = i) (hT : T.length = (n - i))
  (hx : x.length = 1) (hv : w.heap[vb]? = some (.cells x.toArray tV (0, 0))) (hne : vb ≠ g) (h1 : ∀ u ∈ x, u.oneCell' = true) (h1T : ∀ u ∈ T, u.oneCell' = true) :
  Calls Try.prog 43 #[.slice (some ⟨g, 0, none⟩) n cap, .int .i64 i, .slice (some ⟨vb, 0, none⟩) 1 1] w fun e w' => e = .returned (.slice (some ⟨g, 0, none⟩) (n + 1) cap) ∧ w' = (w.drew.setRow g (splice cur.toList ((i + 1)) T).toArray).setRow g (splice (splice cur.toList ((i + 1)) T) (i) x).toArray := by
 obtain ⟨i0, hi0, hz0, hz1, hz2⟩ := info_parts info_int
 have hsz : (Try.prog.info? 3).map (·.size) = some 1 := by rw [hi0]; simp [hz1]
 have mixed : Try.prog.follows .mixedOrders = true := by kernel_rfl
 have hzE : ∀ w, (Go.sizeOf 3).run Try.prog w = .ok 1 w := fun w => by simp [Go.sizeOf, typeInfo, hi0, hz1]
 have hPT : P ++ T = cur.toList.take (n) := htake.symm
 have hc63 : cap ≤ 9223372036854775807 := by unfold maxLen at hcm; omega
 have hz2 : ¬ ((i : Int) = (n : Int)) := by omega
 have hov : ∀ lb cb, (callFunc 74 #[.slice (some ⟨vb, 0, none⟩) 1 1, .slice (some ⟨g, (i + 1), none⟩) lb cb]).run Try.prog w = .ok (.value (.bool false)) w := fun lb cb => by
  rw [run_callFunc_extern Try.func74 (by kernel_rfl) (by kernel_rfl) (by kernel_rfl) (e := Extern.SlicesOverlaps.overlaps #[52, 52] #[4]) (by kernel_rfl),
   Lib.run_overlaps_apart w 52 4 3 Try.underlying52 1 hzE ⟨vb, 0, none⟩ ⟨g, (i + 1), none⟩ 1 1 lb cb hne tV 3 x.length (cap) (by simp [World.shape?, hv]) (by simp [World.shape?, hg, hcs]) (by omega) (by simp [World.frozen?, hv]) (by simp [World.frozen?, hv])]
  rfl
 obtain ⟨L1, hL1⟩ : ∃ L1, L1 = splice cur.toList ((i + 1)) T := ⟨_, rfl⟩
 have hl1 : L1.length = cap := by rw [hL1, length_splice _ _ _ (by rw [hT, Array.length_toList, hcs]; omega), Array.length_toList, hcs]
 have hcp1 : ∀ ty dc sc, (Builtin.copy_ #[52, 52] ty #[.slice (some ⟨g, (i + 1), none⟩) (n - i) dc, .slice (some ⟨g, i, none⟩) (n + 1 - i) sc]).run Try.prog w.drew = .ok (goInt ((n - i : Nat))) (w.drew.setRow g L1.toArray) := fun ty dc sc => by
  rw [hL1]
  exact run_copy_sz w.drew _ _ ty 3 1 g ((i + 1)) (n - i) dc ⟨g, i, none⟩ (n + 1 - i) sc cur 3 T Try.underlying52 hsz hg (n - i) (by simp only [Nat.min_def]; split <;> omega) (by rw [hT]; try omega)
   (fun j u hj => by
    rw [Addr.add_lit, World.cell?_drew, cell_of_row w g _ cur 3 (0, 0) hg, ← Array.getElem?_toList]
    have hj' : (P ++ T)[i + j]? = some u := by rw [List.getElem?_append_right (by omega), hP, Nat.add_sub_cancel_left]; exact hj
    rw [hPT, List.getElem?_take] at hj'
    split at hj'
    ·
     exact hj'
    ·
     cases hj')
   (by rw [hT, hcs]; omega) h1T
 have hg1 : (w.drew.setRow g L1.toArray).heap[g]? = some (.cells L1.toArray 3 (0, 0)) := setRow_heap w.drew g cur _ 3 _ hg
 obtain ⟨W1, hW1⟩ : ∃ W1, W1 = w.drew.setRow g L1.toArray := ⟨_, rfl⟩
 rw [← hL1, ← hW1]
 rw [← hW1] at hcp1 hg1
 have hv1 : W1.heap[vb]? = some (.cells x.toArray tV (0, 0)) := by rw [hW1, setRow_other _ _ _ _ hne]; exact hv
 have hcp2 : ∀ ty dc, (Builtin.copy_ #[52, 52] ty #[.slice (some ⟨g, i, none⟩) (n + 1 - i) dc, .slice (some ⟨vb, 0, none⟩) 1 1]).run Try.prog W1 = .ok (goInt ((1 : Nat))) (W1.setRow g (splice L1 (i) x).toArray) := fun ty dc => by
  have h := run_copy_sz (P := Try.prog) W1 52 52 ty 3 1 g (i) (n + 1 - i) dc ⟨vb, 0, none⟩ 1 1 L1.toArray 3 x Try.underlying52 hsz hg1 1 (by simp only [Nat.min_def]; split <;> omega) (by rw [hx]; try omega) (fun j u hj => World.news_of_block hv1 j u (by simpa using hj)) (by rw [hx]; simp; rw [hl1]; omega) h1
  simpa using h
 have hw1 : IntKind.i64.wrap ((i : Int) + 1) = (i : Int) + 1 := by rw [IntKind.wrap_i64]; omega
 have hb1 : (0 : Int) ≤ (i : Int) + 1 := by omega
 have hin : i ≤ n := by omega
 have htn : ((i : Int) + 1).toNat = i + 1 := by omega
 have hb2 : ¬ (cap = i + 1) := by omega
 have hb3 : (i : Int) ≤ (n : Int) + 1 := by omega
 have hb4 : ¬ (cap = i) := by omega
 clear hPT htake hg hg1 hv hv1 hL1 hl1 hP hT hcs hi0 hz0 hz1 hsz hzE
 subst hW1
 go_enter Try.func43, Try.ntmps43
 go_wp2_with (simp only [hov])
 go_region_law_o (refine step_copy_sz rfl _ _ 52 52 rfl _ _ (by simp [Act.eval, Act.put]) (by simp [Act.eval, Act.put]) (hcp1 _ _ _) ?_)
 go_wp2_with (at_builtin; refine wpList_copy_sz _ rfl _ _ 52 52 rfl _ _ rfl rfl (hcp2 _ _) ?_)
 go_ret
 exact ⟨rfl, rfl⟩

set_option maxHeartbeats 4000000 in
set_option maxRecDepth 100000 in
theorem insert_int_grow (g : Nat) (cur : Array Value) (n i : Nat) (P T : List Value) (x : List Value) (vb : Nat) (tV : TypeId) (w : World) (hg : w.heap[g]? = some (.cells cur 3 (0, 0)))
  (hi : i < n) (hbig : (n + 1) * 8 ≤ 140737488355328) (hcs : cur.size = n) (htake : cur.toList = P ++ T) (hP : P.length = i) (hT : T.length = (n - i))
  (hx : x.length = 1) (hv : w.heap[vb]? = some (.cells x.toArray tV (0, 0))) (h1 : ∀ u ∈ x, u.oneCell' = true) (h1T : ∀ u ∈ T, u.oneCell' = true) :
  Calls Try.prog 43 #[.slice (some ⟨g, 0, none⟩) n n, .int .i64 i, .slice (some ⟨vb, 0, none⟩) 1 1] w fun e w' => ∃ (G : Nat) (Z : List Value), n + 1 ≤ G ∧ G ≤ maxLen ∧ Z.length + i = G ∧ e = .returned (.slice (some ⟨w.heap.size, 0, none⟩) (n + 1) G) ∧ w' = (((w.alloc (.cells (P ++ Z).toArray 3)).drew.setRow w.heap.size (splice (P ++ Z) (i) x).toArray).drew).setRow w.heap.size (splice (splice (P ++ Z) (i) x) ((i + 1)) T).toArray := by
 obtain ⟨i0, hi0, hz0, hz1, hz2⟩ := info_parts info_int
 have hsz : (Try.prog.info? 3).map (·.size) = some 1 := by rw [hi0]; simp [hz1]
 have mixed : Try.prog.follows .mixedOrders = true := by kernel_rfl
 have hz3 : (n : Int) < (n : Int) + 1 := by omega
 have hz4 : ¬ ((i : Int) = (n : Int)) := by omega
 have hgw : g < w.heap.size := (Array.getElem?_eq_some_iff.1 hg).1
 have hvw : vb < w.heap.size := (Array.getElem?_eq_some_iff.1 hv).1
 have hkk : (n : Int) + 1 - (i : Int) = ((n + 1 - i : Nat) : Int) := by omega
 have hik : i + (n + 1 - i) = n + 1 := by omega
 have hcell : ∀ j u, (P ++ T)[j]? = some u → w.cell? ⟨g, j, none⟩ = some u := fun j u hj => by
  rw [cell_of_row w g _ cur 3 (0, 0) hg, ← Array.getElem?_toList, htake]; exact hj
 have hold : (Builtin.firstCells i0.size i (.slice (some ⟨g, 0, none⟩) i n)).run Try.prog w.drew = .ok P.toArray w.drew := by
  rw [hz1]
  exact run_firstCells_some w.drew 1 i ⟨g, 0, none⟩ i n P (by omega) (fun j u hj => by
   rw [Addr.add_lit, Nat.zero_add]
   exact hcell j u (by rw [List.getElem?_append_left ((List.getElem?_eq_some_iff.1 hj).1)]; exact hj))
 obtain ⟨G, hG⟩ : ∃ G, G = grownCap w (n + 1) n 3 := ⟨_, rfl⟩
 obtain ⟨Z, hZ⟩ : ∃ Z : List Value, Z = (Builtin.zeroCells (Value.int .i64 0).cells (n + 1 - i) ++ Builtin.zeroCells (Value.int .i64 0).cells (G - (n + 1))).toList := ⟨_, rfl⟩
 have hGn : n + 1 ≤ G := by rw [hG]; exact grownCap_ge w _ _ _
 have hGm : G ≤ maxLen := by rw [hG]; exact grownCap_le_maxLen w (n + 1) n 3 (by unfold maxLen; omega)
 have hG63 : G ≤ 9223372036854775807 := by unfold maxLen at hGm; omega
 have hZl : Z.length + i = G := by
  rw [hZ]
  simp [Builtin.zeroCells, Value.cells]
  omega
 have hrz : ∀ ty, (Builtin.append_ #[52, 3] ty #[.slice (some ⟨g, 0, none⟩) i n, .int .i64 ((n : Int) + 1 - (i : Int))]).run Try.prog w =
   .ok (.slice (some ⟨w.heap.size, 0, none⟩) (n + 1) G) (w.drew.alloc (.cells (P ++ Z).toArray 3)) := fun ty => by
  have h := Lib.run_append_grow_zeros w 52 3 ty 3 i0 _ .i64 .i64 Try.underlying52 Try.underlying3 hi0 hz0 (some ⟨g, 0, none⟩) i n P hold (n + 1 - i) (by omega) (by omega) (by omega) (by omega) (by rw [hz2]; omega) (by rw [hz2, hik]; exact growslice_fits (by omega) hbig)
  rw [hik, ← hG] at h
  have e : P.toArray ++ Builtin.zeroCells (Value.int .i64 0).cells (n + 1 - i) ++ Builtin.zeroCells (Value.int .i64 0).cells (G - (n + 1)) = (P ++ Z).toArray := Array.ext' (by rw [hZ]; simp)
  rw [hkk, h, e]
 obtain ⟨R0, hR0⟩ : ∃ R0, R0 = P ++ Z := ⟨_, rfl⟩
 have hRl : R0.length = G := by rw [hR0, List.length_append, hP]; omega
 have hRl1 : (splice R0 (i) x).length = G := by rw [length_splice _ _ _ (by rw [hx, hRl]; omega), hRl]
 obtain ⟨R1, hR1⟩ : ∃ R1, R1 = splice R0 (i) x := ⟨_, rfl⟩
 rw [← hR1] at hRl1
 rw [← hR0] at hrz
 have hcpA : ∀ (W : World), W.heap = (w.drew.alloc (.cells R0.toArray 3)).heap → ∀ ty dc, (Builtin.copy_ #[52, 52] ty #[.slice (some ⟨w.heap.size, i, none⟩) (n + 1 - i) dc, .slice (some ⟨vb, 0, none⟩) 1 1]).run Try.prog W = .ok (goInt ((1 : Nat))) (W.setRow w.heap.size R1.toArray) := fun W hW ty dc => by
  have h := run_copy_sz (P := Try.prog) W 52 52 ty 3 1 w.heap.size (i) (n + 1 - i) dc ⟨vb, 0, none⟩ 1 1 R0.toArray 3 x Try.underlying52 hsz (by rw [hW]; exact heap_alloc_new _ _) 1 (by simp only [Nat.min_def]; split <;> omega) (by rw [hx]; try omega)
   (fun j u hj => World.news_of_block (w := W) (cs := x.toArray) (t := tV) (fr := (0, 0)) (by rw [hW]; exact (heap_alloc_old w.drew _ hvw).trans hv) j u (by simpa using hj)) (by rw [hx]; simp; rw [hRl]; omega) h1
  rw [hR1]
  simpa using h
 have hcpB : ∀ (W : World), W.heap = ((w.drew.alloc (.cells R0.toArray 3)).setRow w.heap.size R1.toArray).heap → ∀ ty dc sc, (Builtin.copy_ #[52, 52] ty #[.slice (some ⟨w.heap.size, (i + 1), none⟩) (n - i) dc, .slice (some ⟨g, i, none⟩) (n - i) sc]).run Try.prog W = .ok (goInt ((n - i : Nat))) (W.setRow w.heap.size (splice R1 ((i + 1)) T).toArray) := fun W hW ty dc sc => by
  have hgW : W.heap[g]? = some (.cells cur 3 (0, 0)) := by rw [hW, setRow_other _ _ _ _ (by omega)]; exact (heap_alloc_old w.drew _ hgw).trans hg
  have h := run_copy_sz (P := Try.prog) W 52 52 ty 3 1 w.heap.size ((i + 1)) (n - i) dc ⟨g, i, none⟩ (n - i) sc R1.toArray 3 T Try.underlying52 hsz (by rw [hW]; exact setRow_heap _ _ _ _ _ _ (heap_alloc_new _ _)) (n - i) (by simp only [Nat.min_def]; split <;> omega) (by rw [hT]; try omega)
   (fun j u hj => by
    rw [Addr.add_lit, cell_of_row W g _ cur 3 (0, 0) hgW, ← Array.getElem?_toList, htake]
    rw [List.getElem?_append_right (by omega), hP, Nat.add_sub_cancel_left]; exact hj) (by rw [hT]; simp; rw [hRl1]; omega) h1T
  simpa using h
 have hGi : ¬ (G = i) := by omega
 have hGim : ¬ (G = i + 1) := by omega
 have hni : ¬ (n = i) := by omega
 have hgN : g ≠ w.heap.size := by omega
 have hE1 : ((w.alloc (.cells R0.toArray 3)).drew).heap = (w.drew.alloc (.cells R0.toArray 3)).heap := rfl
 have hF1 : (((w.alloc (.cells R0.toArray 3)).drew.setRow w.heap.size R1.toArray).drew).heap = ((w.drew.alloc (.cells R0.toArray 3)).setRow w.heap.size R1.toArray).heap := rfl
 have hw1 : IntKind.i64.wrap ((i : Int) + 1) = (i : Int) + 1 := by rw [IntKind.wrap_i64]; omega
 have hw2 : IntKind.i64.wrap ((n : Int) + 1) = (n : Int) + 1 := by rw [IntKind.wrap_i64]; omega
 have hb1 : (0 : Int) ≤ (i : Int) + 1 := by omega
 have hin : i ≤ n := by omega
 have htn : ((i : Int) + 1).toNat = i + 1 := by omega
 have hb3 : (i : Int) ≤ (n : Int) := by omega
 suffices key : Calls Try.prog 43 #[.slice (some ⟨g, 0, none⟩) n n, .int .i64 i, .slice (some ⟨vb, 0, none⟩) 1 1] w (fun e w' => e = .returned (.slice (some ⟨w.heap.size, 0, none⟩) (n + 1) G) ∧ w' = (((w.alloc (.cells R0.toArray 3)).drew.setRow w.heap.size R1.toArray).drew).setRow w.heap.size (splice R1 ((i + 1)) T).toArray) from key.mono (fun e w' h => ⟨G, Z, hGn, hGm, hZl, h.1, by rw [h.2, hR1, hR0]⟩)
 clear hkk hik hold hR0 hR1 hG hRl hRl1 hZ hZl hcell htake hg hv hcs hP hT hi0 hz0 hz1 hz2 hsz
 go_enter Try.func43, Try.ntmps43
 go_wp2_with (first
  | (at_builtin; refine Lib.wpList_append_run _ rfl _ _ _ _ rfl _ _ rfl rfl _ _ (hrz _) ?_)
  | (at_builtin; refine wpList_copy_sz _ rfl _ _ 52 52 rfl _ _ rfl rfl (hcpA _ hE1 _ _) ?_)
  | (at_builtin; refine wpList_copy_sz _ rfl _ _ 52 52 rfl _ _ rfl rfl (hcpB _ rfl _ _ _) ?_))
 go_region_law_o (refine step_copy_sz rfl _ _ 52 52 rfl (.slice (some ⟨w.heap.size, (i + 1), none⟩) (n - i) (G - (i + 1))) (.slice (some ⟨g, i, none⟩) (n - i) (n - i)) (by simp [Act.eval, Act.put]) (by simp [Act.eval, Act.put]) (hcpB _ hF1 3 (G - (i + 1)) (n - i)) ?_)
 go_wp2
 go_ret
 exact ⟨rfl, rfl⟩
theorem insert_int (base : Nat) (v : Value) (n i : Nat) (cs : List Value) (x : List Value) (vb : Nat) (tV : TypeId) (w : World) (hown : w.ownsRow base 3 1 v n cs) (hi : i ≤ n)
  (hx : x.length = 1) (hv : w.heap[vb]? = some (.cells x.toArray tV (0, 0))) (hne : some vb ≠ v.ownBlock) (hB : base ≤ w.heap.size) (hbig : (n + 1) * 8 ≤ 140737488355328) (h1 : ∀ u ∈ x, u.oneCell' = true) (h1c : ∀ u ∈ cs, u.oneCell' = true) :
  Calls Try.prog 43 #[v, .int .i64 i, .slice (some ⟨vb, 0, none⟩) 1 1] w fun e w' => ∃ v', e = .returned v' ∧ w'.ownsRow base 3 1 v' (n + 1) (cs.take (i) ++ (x ++ cs.drop (i))) ∧ w.grownBy w' v.ownBlock := by
 have hcl : cs.length = n := by have := hown.1; omega
 by_cases hin : i = n
 ·
  subst hin
  refine (insert_int_end base v i cs x vb tV w hown hx hv hB hbig h1).mono ?_
  rintro e w' ⟨v', rfl, ho, hgr⟩
  refine ⟨v', rfl, ?_, hgr⟩
  rw [List.take_of_length_le (by omega), List.drop_eq_nil_of_le (by omega), List.append_nil]
  exact ho
 ·
  rcases hown.2 with ⟨rfl, rfl⟩ | ⟨g, cap, cur, rfl, hbg, hg, hnc, hcm, hcs, htake⟩
  ·
   omega
  ·
   try simp only [Nat.mul_one] at hcs htake
   have hP : (cs.take (i)).length = i := by rw [List.length_take]; omega
   have hT : (cs.drop (i)).length = (n - i) := by rw [List.length_drop]; omega
   have h1T : ∀ u ∈ cs.drop (i), u.oneCell' = true := fun u hu => h1c u (List.mem_of_mem_drop hu)
   have hres : (cs.take (i) ++ (x ++ cs.drop (i))).length = (n + 1) := by simp only [List.length_append, hP, hT, hx]; omega
   by_cases hroom : n + 1 ≤ cap
   ·
    refine (insert_int_room g cap cur n i (cs.take (i)) (cs.drop (i)) x vb tV w hg (by omega) hroom hcm hcs (by rw [htake, List.take_append_drop]) hP hT hx hv (fun h => hne (by rw [h]; rfl)) h1 h1T).mono ?_
    rintro e w' ⟨rfl, rfl⟩
    refine ⟨_, rfl, ⟨by rw [hres]; try omega, .inr ⟨g, cap, _, rfl, hbg, setRow_heap _ _ _ _ _ _ (setRow_heap w.drew _ _ _ _ _ hg), hroom, hcm, ?_, ?_⟩⟩, ⟨rfl, rfl, rfl, by simp [World.setRow], fun k hk hr => ?_⟩⟩
    ·
     have e1 : (splice cur.toList ((i + 1)) (cs.drop (i))).length = cap := by rw [length_splice _ _ _ (by rw [hT, Array.length_toList, hcs]; omega), Array.length_toList, hcs]
     have e2 := length_splice (splice cur.toList ((i + 1)) (cs.drop (i))) (i) x (by rw [e1, hx]; omega)
     rw [List.size_toArray]
     omega
    ·
     have h := put_in cur.toList (cs.take (i)) (cs.drop (i)) x 1 hx (by rw [hP, hT, Array.length_toList, hcs]; omega) (by rw [hP, hT, show i + (n - i) = n by omega, htake, List.take_append_drop])
     rw [hP, hT, show i + 1 = (i + 1) by omega, show i + (n - i) + 1 = (n + 1) by omega] at h
     first | exact h | simpa using h
    ·
     have hkg : k ≠ g := fun h => hr (by rw [h]; rfl)
     rw [setRow_other _ _ _ _ hkg, setRow_other _ _ _ _ hkg]
     rfl
   ·
    obtain rfl : cap = n := by omega
    have hfull : cur.toList = cs := by rw [← htake, ← hcs, ← Array.length_toList, List.take_length]
    refine (insert_int_grow g cur cap i (cs.take (i)) (cs.drop (i)) x vb tV w hg (by omega) hbig hcs (by rw [hfull, List.take_append_drop]) hP hT hx hv h1 h1T).mono ?_
    rintro e w' ⟨G, Z, hG1, hG2, hZl, rfl, rfl⟩
    have hN : ((w.alloc (.cells (cs.take (i) ++ Z).toArray 3)).drew).heap[w.heap.size]? = some (.cells (cs.take (i) ++ Z).toArray 3 (0, 0)) := heap_alloc_new _ _
    refine ⟨_, rfl, ⟨by rw [hres]; try omega, .inr ⟨w.heap.size, G, _, rfl, hB, setRow_heap _ _ _ _ _ _ (setRow_heap _ _ _ _ _ _ hN), hG1, hG2, ?_, ?_⟩⟩, ⟨rfl, rfl, rfl, by simp [World.setRow], fun k hk hr => ?_⟩⟩
    ·
     have e0 : (cs.take (i) ++ Z).length = G := by rw [List.length_append, hP]; omega
     have e1 : (splice (cs.take (i) ++ Z) (i) x).length = G := by rw [length_splice _ _ _ (by rw [e0, hx]; omega), e0]
     have e2 := length_splice (splice (cs.take (i) ++ Z) (i) x) ((i + 1)) (cs.drop (i)) (by rw [e1, hT]; omega)
     rw [List.size_toArray]
     omega
    ·
     have h := put_new (cs.take (i) ++ Z) (cs.take (i)) (cs.drop (i)) x Z 1 hx rfl (by rw [hT]; omega)
     rw [hP, hT, show i + 1 = (i + 1) by omega, show i + (cap - i) + 1 = (cap + 1) by omega] at h
     first | exact h | simpa using h
    ·
     have hkg : k ≠ w.heap.size := by omega
     rw [setRow_other _ _ _ _ hkg]
     show (World.setRow _ _ _).heap[k]? = _
     rw [setRow_other _ _ _ _ hkg]
     exact heap_alloc_old w _ hk

theorem info_mark : (Try.prog.info? 54).map (fun i => (i.zero, i.size, i.bytes)) = some (some (Value.agg #[.int .i64 0, .int .i64 0, .slice none 0 0]), 3, 40) := by kernel_rfl
set_option maxHeartbeats 4000000 in
set_option maxRecDepth 100000 in
theorem clone_mark (A : Option Addr) (n c : Nat) (news : List Value) (w : World) (hl : news.length = n * 3) (hA : A = none → n = 0) (hbig : n * 40 ≤ 140737488355328)
  (hc : ∀ a, A = some a → ∀ j u, news[j]? = some u → w.cell? (a.add j) = some u) (h1 : ∀ u ∈ news, u.oneCell' = true) :
  Calls Try.prog 45 #[.slice A n c] w fun e w' => ∃ v', e = .returned v' ∧ w'.ownsRow w.heap.size 54 3 v' n news ∧ Below w.heap.size w w' := by
 have q22 : ∀ (w : World) (a : Option Addr) (n c n' c' : Nat), (binOp .eql 42 (.slice a n c) (.slice none n' c')).run Try.prog w = .ok (.bool a.isNone) w := fun w a n c n' c' => Lib.run_eql_slice_nil w _ _ a n c n' c' Try.underlying42
 obtain ⟨i0, hi0, hz0, hz1, hz2⟩ := info_parts info_mark
 have HC : Aside (∀ a, A = some a → ∀ j u, news[j]? = some u → w.cell? (a.add j) = some u) := hc
 clear hc
 cases A with
 | none =>
  have hn := hA rfl
  subst hn
  have hnews : news = [] := List.eq_nil_of_length_eq_zero (by simpa using hl)
  subst hnews
  clear HC hA hl hbig h1
  go_enter Try.func45, Try.ntmps45
  go_wp2
  go_ret
  exact ⟨_, rfl, World.ownsRow_nil _ _ _ _, Below.refl _ _⟩
 | some ad =>
  go_enter Try.func45, Try.ntmps45
  go_wp2_with (at_builtin; refine wpList_append_own _ rfl _ _ 42 rfl w.heap.size 54 i0 (Value.agg #[.int .i64 0, .int .i64 0, .slice none 0 0]) 3 40 Try.underlying42 hi0 hz0 hz1 hz2 rfl (by decide) _ _ _ rfl (World.ownsRow_made w #[] 0 (Nat.le_refl _) (Nat.zero_le _) (by simp)) ad n c news rfl ?qc1 ?qc2 ?qc3 ?qc4 ?qc5 ?qc6 ?_)
  case qc1 => omega
  case qc2 =>
   intro j u hj
   exact Lib.cell?_alloc_some _ (HC.out ad rfl j u hj)
  case qc3 => exact h1
  case qc4 => rw [Nat.zero_add]; unfold maxLen; omega
  case qc5 => rw [Nat.zero_add]; exact hbig
  case qc6 => simp
  intro v' w1 hown hgrow hnil
  go_wp2
  go_ret
  exact ⟨v', rfl, by simpa using hown, ((Below.refl _ w).alloc (Nat.le_refl _) _).grown hgrow (by simp) (by intro k hk; simp [Value.ownBlock] at hk; omega)⟩

set_option maxHeartbeats 4000000 in
set_option maxRecDepth 100000 in
theorem insert_mark_end (base : Nat) (v : Value) (n : Nat) (cs : List Value) (x : List Value) (vb : Nat) (tV : TypeId) (w : World) (hown : w.ownsRow base 54 3 v n cs)
  (hx : x.length = 3) (hv : w.heap[vb]? = some (.cells x.toArray tV (0, 0))) (hB : base ≤ w.heap.size) (hbig : (n + 1) * 40 ≤ 140737488355328) (h1 : ∀ u ∈ x, u.oneCell' = true) :
  Calls Try.prog 48 #[v, .int .i64 n, .slice (some ⟨vb, 0, none⟩) 1 1] w fun e w' => ∃ v', e = .returned v' ∧ w'.ownsRow base 54 3 v' (n + 1) (cs ++ x) ∧ w.grownBy w' v.ownBlock := by
 obtain ⟨i0, hi0, hz0, hz1, hz2⟩ := info_parts info_mark
 have HV : Aside (∀ j u, x[j]? = some u → w.cell? ((⟨vb, 0, none⟩ : Addr).add j) = some u) := by
  intro j u hj
  exact World.news_of_block hv j u (by simpa using hj)
 have HO : Aside (w.ownsRow base 54 3 v n cs) := hown
 have hc := hown.2
 clear hv hown
 rcases hc with ⟨rfl, rfl⟩ | ⟨g, cap, cur, rfl, hbg, hg, hnc, hcm, hcs, htake⟩
 ·
  go_enter Try.func48, Try.ntmps48
  go_wp2_with (at_builtin; refine wpList_append_own _ rfl _ _ 42 rfl base 54 i0 (Value.agg #[.int .i64 0, .int .i64 0, .slice none 0 0]) 3 40 Try.underlying42 hi0 hz0 hz1 hz2 rfl (by decide) _ _ _ rfl HO.out ⟨vb, 0, none⟩ 1 1 x rfl ?qc1 ?qc2 ?qc3 ?qc4 ?qc5 ?qc6 ?_)
  case qc1 => rw [hx]; try omega
  case qc2 => exact HV.out
  case qc3 => exact h1
  case qc4 => unfold maxLen; omega
  case qc5 => exact hbig
  case qc6 => exact hB
  intro v' w1 hown hgrow hnil
  go_wp2
  go_ret
  exact ⟨v', rfl, hown, hgrow⟩
 ·
  have hc63 : cap ≤ 9223372036854775807 := by unfold maxLen at hcm; omega
  clear hg hcs htake hcm
  go_enter Try.func48, Try.ntmps48
  go_wp2_with (at_builtin; refine wpList_append_own _ rfl _ _ 42 rfl base 54 i0 (Value.agg #[.int .i64 0, .int .i64 0, .slice none 0 0]) 3 40 Try.underlying42 hi0 hz0 hz1 hz2 rfl (by decide) _ _ _ rfl HO.out ⟨vb, 0, none⟩ 1 1 x rfl ?qc1 ?qc2 ?qc3 ?qc4 ?qc5 ?qc6 ?_)
  case qc1 => rw [hx]; try omega
  case qc2 => exact HV.out
  case qc3 => exact h1
  case qc4 => unfold maxLen; omega
  case qc5 => exact hbig
  case qc6 => exact hB
  all_goals
   intro v' w1 hown hgrow hnil
   go_wp2
   go_ret
   exact ⟨v', rfl, hown, hgrow⟩

set_option maxHeartbeats 4000000 in
set_option maxRecDepth 100000 in
theorem insert_mark_room (g cap : Nat) (cur : Array Value) (n i : Nat) (P T : List Value) (x : List Value) (vb : Nat) (tV : TypeId) (w : World) (hg : w.heap[g]? = some (.cells cur 54 (0, 0)))
  (hi : i < n) (hroom : n + 1 ≤ cap) (hcm : cap ≤ maxLen) (hcs : cur.size = cap * 3) (htake : cur.toList.take (n * 3) = P ++ T) (hP : P.length = i * 3) (hT : T.length = (n - i) * 3)
  (hx : x.length = 3) (hv : w.heap[vb]? = some (.cells x.toArray tV (0, 0))) (hne : vb ≠ g) (h1 : ∀ u ∈ x, u.oneCell' = true) (h1T : ∀ u ∈ T, u.oneCell' = true) :
  Calls Try.prog 48 #[.slice (some ⟨g, 0, none⟩) n cap, .int .i64 i, .slice (some ⟨vb, 0, none⟩) 1 1] w fun e w' => e = .returned (.slice (some ⟨g, 0, none⟩) (n + 1) cap) ∧ w' = (w.drew.setRow g (splice cur.toList ((i + 1) * 3) T).toArray).setRow g (splice (splice cur.toList ((i + 1) * 3) T) (i * 3) x).toArray := by
 obtain ⟨i0, hi0, hz0, hz1, hz2⟩ := info_parts info_mark
 have hsz : (Try.prog.info? 54).map (·.size) = some 3 := by rw [hi0]; simp [hz1]
 have mixed : Try.prog.follows .mixedOrders = true := by kernel_rfl
 have hzE : ∀ w, (Go.sizeOf 54).run Try.prog w = .ok 3 w := fun w => by simp [Go.sizeOf, typeInfo, hi0, hz1]
 have hPT : P ++ T = cur.toList.take (n * 3) := htake.symm
 have hc63 : cap ≤ 9223372036854775807 := by unfold maxLen at hcm; omega
 have hz2 : ¬ ((i : Int) = (n : Int)) := by omega
 have hov : ∀ lb cb, (callFunc 76 #[.slice (some ⟨vb, 0, none⟩) 1 1, .slice (some ⟨g, (i + 1) * 3, none⟩) lb cb]).run Try.prog w = .ok (.value (.bool false)) w := fun lb cb => by
  rw [run_callFunc_extern Try.func76 (by kernel_rfl) (by kernel_rfl) (by kernel_rfl) (e := Extern.SlicesOverlaps.overlaps #[42, 42] #[4]) (by kernel_rfl),
   Lib.run_overlaps_apart w 42 4 54 Try.underlying42 3 hzE ⟨vb, 0, none⟩ ⟨g, (i + 1) * 3, none⟩ 1 1 lb cb hne tV 54 x.length (cap * 3) (by simp [World.shape?, hv]) (by simp [World.shape?, hg, hcs]) (by omega) (by simp [World.frozen?, hv]) (by simp [World.frozen?, hv])]
  rfl
 obtain ⟨L1, hL1⟩ : ∃ L1, L1 = splice cur.toList ((i + 1) * 3) T := ⟨_, rfl⟩
 have hl1 : L1.length = cap * 3 := by rw [hL1, length_splice _ _ _ (by rw [hT, Array.length_toList, hcs]; omega), Array.length_toList, hcs]
 have hcp1 : ∀ ty dc sc, (Builtin.copy_ #[42, 42] ty #[.slice (some ⟨g, (i + 1) * 3, none⟩) (n - i) dc, .slice (some ⟨g, i * 3, none⟩) (n + 1 - i) sc]).run Try.prog w.drew = .ok (goInt ((n - i : Nat))) (w.drew.setRow g L1.toArray) := fun ty dc sc => by
  rw [hL1]
  exact run_copy_sz w.drew _ _ ty 54 3 g ((i + 1) * 3) (n - i) dc ⟨g, i * 3, none⟩ (n + 1 - i) sc cur 54 T Try.underlying42 hsz hg (n - i) (by simp only [Nat.min_def]; split <;> omega) (by rw [hT]; try omega)
   (fun j u hj => by
    rw [Addr.add_lit, World.cell?_drew, cell_of_row w g _ cur 54 (0, 0) hg, ← Array.getElem?_toList]
    have hj' : (P ++ T)[i * 3 + j]? = some u := by rw [List.getElem?_append_right (by omega), hP, Nat.add_sub_cancel_left]; exact hj
    rw [hPT, List.getElem?_take] at hj'
    split at hj'
    ·
     exact hj'
    ·
     cases hj')
   (by rw [hT, hcs]; omega) h1T
 have hg1 : (w.drew.setRow g L1.toArray).heap[g]? = some (.cells L1.toArray 54 (0, 0)) := setRow_heap w.drew g cur _ 54 _ hg
 obtain ⟨W1, hW1⟩ : ∃ W1, W1 = w.drew.setRow g L1.toArray := ⟨_, rfl⟩
 rw [← hL1, ← hW1]
 rw [← hW1] at hcp1 hg1
 have hv1 : W1.heap[vb]? = some (.cells x.toArray tV (0, 0)) := by rw [hW1, setRow_other _ _ _ _ hne]; exact hv
 have hcp2 : ∀ ty dc, (Builtin.copy_ #[42, 42] ty #[.slice (some ⟨g, i * 3, none⟩) (n + 1 - i) dc, .slice (some ⟨vb, 0, none⟩) 1 1]).run Try.prog W1 = .ok (goInt ((1 : Nat))) (W1.setRow g (splice L1 (i * 3) x).toArray) := fun ty dc => by
  have h := run_copy_sz (P := Try.prog) W1 42 42 ty 54 3 g (i * 3) (n + 1 - i) dc ⟨vb, 0, none⟩ 1 1 L1.toArray 54 x Try.underlying42 hsz hg1 1 (by simp only [Nat.min_def]; split <;> omega) (by rw [hx]; try omega) (fun j u hj => World.news_of_block hv1 j u (by simpa using hj)) (by rw [hx]; simp; rw [hl1]; omega) h1
  simpa using h
 have hw1 : IntKind.i64.wrap ((i : Int) + 1) = (i : Int) + 1 := by rw [IntKind.wrap_i64]; omega
 have hb1 : (0 : Int) ≤ (i : Int) + 1 := by omega
 have hin : i ≤ n := by omega
 have htn : ((i : Int) + 1).toNat = i + 1 := by omega
 have hb2 : ¬ (cap = i + 1) := by omega
 have hb3 : (i : Int) ≤ (n : Int) + 1 := by omega
 have hb4 : ¬ (cap = i) := by omega
 clear hPT htake hg hg1 hv hv1 hL1 hl1 hP hT hcs hi0 hz0 hz1 hsz hzE
 subst hW1
 go_enter Try.func48, Try.ntmps48
 go_wp2_with (simp only [hov])
 go_region_law_o (refine step_copy_sz rfl _ _ 42 42 rfl _ _ (by simp [Act.eval, Act.put]) (by simp [Act.eval, Act.put]) (hcp1 _ _ _) ?_)
 go_wp2_with (at_builtin; refine wpList_copy_sz _ rfl _ _ 42 42 rfl _ _ rfl rfl (hcp2 _ _) ?_)
 go_ret
 exact ⟨rfl, rfl⟩

set_option maxHeartbeats 4000000 in
set_option maxRecDepth 100000 in
theorem insert_mark_grow (g : Nat) (cur : Array Value) (n i : Nat) (P T : List Value) (x : List Value) (vb : Nat) (tV : TypeId) (w : World) (hg : w.heap[g]? = some (.cells cur 54 (0, 0)))
  (hi : i < n) (hbig : (n + 1) * 40 ≤ 140737488355328) (hcs : cur.size = n * 3) (htake : cur.toList = P ++ T) (hP : P.length = i * 3) (hT : T.length = (n - i) * 3)
  (hx : x.length = 3) (hv : w.heap[vb]? = some (.cells x.toArray tV (0, 0))) (h1 : ∀ u ∈ x, u.oneCell' = true) (h1T : ∀ u ∈ T, u.oneCell' = true) :
  Calls Try.prog 48 #[.slice (some ⟨g, 0, none⟩) n n, .int .i64 i, .slice (some ⟨vb, 0, none⟩) 1 1] w fun e w' => ∃ (G : Nat) (Z : List Value), n + 1 ≤ G ∧ G ≤ maxLen ∧ Z.length + i * 3 = G * 3 ∧ e = .returned (.slice (some ⟨w.heap.size, 0, none⟩) (n + 1) G) ∧ w' = (((w.alloc (.cells (P ++ Z).toArray 54)).drew.setRow w.heap.size (splice (P ++ Z) (i * 3) x).toArray).drew).setRow w.heap.size (splice (splice (P ++ Z) (i * 3) x) ((i + 1) * 3) T).toArray := by
 obtain ⟨i0, hi0, hz0, hz1, hz2⟩ := info_parts info_mark
 have hsz : (Try.prog.info? 54).map (·.size) = some 3 := by rw [hi0]; simp [hz1]
 have mixed : Try.prog.follows .mixedOrders = true := by kernel_rfl
 have hz3 : (n : Int) < (n : Int) + 1 := by omega
 have hz4 : ¬ ((i : Int) = (n : Int)) := by omega
 have hgw : g < w.heap.size := (Array.getElem?_eq_some_iff.1 hg).1
 have hvw : vb < w.heap.size := (Array.getElem?_eq_some_iff.1 hv).1
 have hkk : (n : Int) + 1 - (i : Int) = ((n + 1 - i : Nat) : Int) := by omega
 have hik : i + (n + 1 - i) = n + 1 := by omega
 have hcell : ∀ j u, (P ++ T)[j]? = some u → w.cell? ⟨g, j, none⟩ = some u := fun j u hj => by
  rw [cell_of_row w g _ cur 54 (0, 0) hg, ← Array.getElem?_toList, htake]; exact hj
 have hold : (Builtin.firstCells i0.size i (.slice (some ⟨g, 0, none⟩) i n)).run Try.prog w.drew = .ok P.toArray w.drew := by
  rw [hz1]
  exact run_firstCells_some w.drew 3 i ⟨g, 0, none⟩ i n P (by omega) (fun j u hj => by
   rw [Addr.add_lit, Nat.zero_add]
   exact hcell j u (by rw [List.getElem?_append_left ((List.getElem?_eq_some_iff.1 hj).1)]; exact hj))
 obtain ⟨G, hG⟩ : ∃ G, G = grownCap w (n + 1) n 54 := ⟨_, rfl⟩
 obtain ⟨Z, hZ⟩ : ∃ Z : List Value, Z = (Builtin.zeroCells (Value.agg #[.int .i64 0, .int .i64 0, .slice none 0 0]).cells (n + 1 - i) ++ Builtin.zeroCells (Value.agg #[.int .i64 0, .int .i64 0, .slice none 0 0]).cells (G - (n + 1))).toList := ⟨_, rfl⟩
 have hGn : n + 1 ≤ G := by rw [hG]; exact grownCap_ge w _ _ _
 have hGm : G ≤ maxLen := by rw [hG]; exact grownCap_le_maxLen w (n + 1) n 54 (by unfold maxLen; omega)
 have hG63 : G ≤ 9223372036854775807 := by unfold maxLen at hGm; omega
 have hZl : Z.length + i * 3 = G * 3 := by
  rw [hZ]
  simp [Builtin.zeroCells, Value.cells]
  omega
 have hrz : ∀ ty, (Builtin.append_ #[42, 3] ty #[.slice (some ⟨g, 0, none⟩) i n, .int .i64 ((n : Int) + 1 - (i : Int))]).run Try.prog w =
   .ok (.slice (some ⟨w.heap.size, 0, none⟩) (n + 1) G) (w.drew.alloc (.cells (P ++ Z).toArray 54)) := fun ty => by
  have h := Lib.run_append_grow_zeros w 42 3 ty 54 i0 _ .i64 .i64 Try.underlying42 Try.underlying3 hi0 hz0 (some ⟨g, 0, none⟩) i n P hold (n + 1 - i) (by omega) (by omega) (by omega) (by omega) (by rw [hz2]; omega) (by rw [hz2, hik]; exact growslice_fits (by omega) hbig)
  rw [hik, ← hG] at h
  have e : P.toArray ++ Builtin.zeroCells (Value.agg #[.int .i64 0, .int .i64 0, .slice none 0 0]).cells (n + 1 - i) ++ Builtin.zeroCells (Value.agg #[.int .i64 0, .int .i64 0, .slice none 0 0]).cells (G - (n + 1)) = (P ++ Z).toArray := Array.ext' (by rw [hZ]; simp)
  rw [hkk, h, e]
 obtain ⟨R0, hR0⟩ : ∃ R0, R0 = P ++ Z := ⟨_, rfl⟩
 have hRl : R0.length = G * 3 := by rw [hR0, List.length_append, hP]; omega
 have hRl1 : (splice R0 (i * 3) x).length = G * 3 := by rw [length_splice _ _ _ (by rw [hx, hRl]; omega), hRl]
 obtain ⟨R1, hR1⟩ : ∃ R1, R1 = splice R0 (i * 3) x := ⟨_, rfl⟩
 rw [← hR1] at hRl1
 rw [← hR0] at hrz
 have hcpA : ∀ (W : World), W.heap = (w.drew.alloc (.cells R0.toArray 54)).heap → ∀ ty dc, (Builtin.copy_ #[42, 42] ty #[.slice (some ⟨w.heap.size, i * 3, none⟩) (n + 1 - i) dc, .slice (some ⟨vb, 0, none⟩) 1 1]).run Try.prog W = .ok (goInt ((1 : Nat))) (W.setRow w.heap.size R1.toArray) := fun W hW ty dc => by
  have h := run_copy_sz (P := Try.prog) W 42 42 ty 54 3 w.heap.size (i * 3) (n + 1 - i) dc ⟨vb, 0, none⟩ 1 1 R0.toArray 54 x Try.underlying42 hsz (by rw [hW]; exact heap_alloc_new _ _) 1 (by simp only [Nat.min_def]; split <;> omega) (by rw [hx]; try omega)
   (fun j u hj => World.news_of_block (w := W) (cs := x.toArray) (t := tV) (fr := (0, 0)) (by rw [hW]; exact (heap_alloc_old w.drew _ hvw).trans hv) j u (by simpa using hj)) (by rw [hx]; simp; rw [hRl]; omega) h1
  rw [hR1]
  simpa using h
 have hcpB : ∀ (W : World), W.heap = ((w.drew.alloc (.cells R0.toArray 54)).setRow w.heap.size R1.toArray).heap → ∀ ty dc sc, (Builtin.copy_ #[42, 42] ty #[.slice (some ⟨w.heap.size, (i + 1) * 3, none⟩) (n - i) dc, .slice (some ⟨g, i * 3, none⟩) (n - i) sc]).run Try.prog W = .ok (goInt ((n - i : Nat))) (W.setRow w.heap.size (splice R1 ((i + 1) * 3) T).toArray) := fun W hW ty dc sc => by
  have hgW : W.heap[g]? = some (.cells cur 54 (0, 0)) := by rw [hW, setRow_other _ _ _ _ (by omega)]; exact (heap_alloc_old w.drew _ hgw).trans hg
  have h := run_copy_sz (P := Try.prog) W 42 42 ty 54 3 w.heap.size ((i + 1) * 3) (n - i) dc ⟨g, i * 3, none⟩ (n - i) sc R1.toArray 54 T Try.underlying42 hsz (by rw [hW]; exact setRow_heap _ _ _ _ _ _ (heap_alloc_new _ _)) (n - i) (by simp only [Nat.min_def]; split <;> omega) (by rw [hT]; try omega)
   (fun j u hj => by
    rw [Addr.add_lit, cell_of_row W g _ cur 54 (0, 0) hgW, ← Array.getElem?_toList, htake]
    rw [List.getElem?_append_right (by omega), hP, Nat.add_sub_cancel_left]; exact hj) (by rw [hT]; simp; rw [hRl1]; omega) h1T
  simpa using h
 have hGi : ¬ (G = i) := by omega
 have hGim : ¬ (G = i + 1) := by omega
 have hni : ¬ (n = i) := by omega
 have hgN : g ≠ w.heap.size := by omega
 have hE1 : ((w.alloc (.cells R0.toArray 54)).drew).heap = (w.drew.alloc (.cells R0.toArray 54)).heap := rfl
 have hF1 : (((w.alloc (.cells R0.toArray 54)).drew.setRow w.heap.size R1.toArray).drew).heap = ((w.drew.alloc (.cells R0.toArray 54)).setRow w.heap.size R1.toArray).heap := rfl
 have hw1 : IntKind.i64.wrap ((i : Int) + 1) = (i : Int) + 1 := by rw [IntKind.wrap_i64]; omega
 have hw2 : IntKind.i64.wrap ((n : Int) + 1) = (n : Int) + 1 := by rw [IntKind.wrap_i64]; omega
 have hb1 : (0 : Int) ≤ (i : Int) + 1 := by omega
 have hin : i ≤ n := by omega
 have htn : ((i : Int) + 1).toNat = i + 1 := by omega
 have hb3 : (i : Int) ≤ (n : Int) := by omega
 suffices key : Calls Try.prog 48 #[.slice (some ⟨g, 0, none⟩) n n, .int .i64 i, .slice (some ⟨vb, 0, none⟩) 1 1] w (fun e w' => e = .returned (.slice (some ⟨w.heap.size, 0, none⟩) (n + 1) G) ∧ w' = (((w.alloc (.cells R0.toArray 54)).drew.setRow w.heap.size R1.toArray).drew).setRow w.heap.size (splice R1 ((i + 1) * 3) T).toArray) from key.mono (fun e w' h => ⟨G, Z, hGn, hGm, hZl, h.1, by rw [h.2, hR1, hR0]⟩)
 clear hkk hik hold hR0 hR1 hG hRl hRl1 hZ hZl hcell htake hg hv hcs hP hT hi0 hz0 hz1 hz2 hsz
 go_enter Try.func48, Try.ntmps48
 go_wp2_with (first
  | (at_builtin; refine Lib.wpList_append_run _ rfl _ _ _ _ rfl _ _ rfl rfl _ _ (hrz _) ?_)
  | (at_builtin; refine wpList_copy_sz _ rfl _ _ 42 42 rfl _ _ rfl rfl (hcpA _ hE1 _ _) ?_)
  | (at_builtin; refine wpList_copy_sz _ rfl _ _ 42 42 rfl _ _ rfl rfl (hcpB _ rfl _ _ _) ?_))
 go_region_law_o (refine step_copy_sz rfl _ _ 42 42 rfl (.slice (some ⟨w.heap.size, (i + 1) * 3, none⟩) (n - i) (G - (i + 1))) (.slice (some ⟨g, i * 3, none⟩) (n - i) (n - i)) (by simp [Act.eval, Act.put]) (by simp [Act.eval, Act.put]) (hcpB _ hF1 3 (G - (i + 1)) (n - i)) ?_)
 go_wp2
 go_ret
 exact ⟨rfl, rfl⟩
theorem insert_mark (base : Nat) (v : Value) (n i : Nat) (cs : List Value) (x : List Value) (vb : Nat) (tV : TypeId) (w : World) (hown : w.ownsRow base 54 3 v n cs) (hi : i ≤ n)
  (hx : x.length = 3) (hv : w.heap[vb]? = some (.cells x.toArray tV (0, 0))) (hne : some vb ≠ v.ownBlock) (hB : base ≤ w.heap.size) (hbig : (n + 1) * 40 ≤ 140737488355328) (h1 : ∀ u ∈ x, u.oneCell' = true) (h1c : ∀ u ∈ cs, u.oneCell' = true) :
  Calls Try.prog 48 #[v, .int .i64 i, .slice (some ⟨vb, 0, none⟩) 1 1] w fun e w' => ∃ v', e = .returned v' ∧ w'.ownsRow base 54 3 v' (n + 1) (cs.take (i * 3) ++ (x ++ cs.drop (i * 3))) ∧ w.grownBy w' v.ownBlock := by
 have hcl : cs.length = n * 3 := by have := hown.1; omega
 by_cases hin : i = n
 ·
  subst hin
  refine (insert_mark_end base v i cs x vb tV w hown hx hv hB hbig h1).mono ?_
  rintro e w' ⟨v', rfl, ho, hgr⟩
  refine ⟨v', rfl, ?_, hgr⟩
  rw [List.take_of_length_le (by omega), List.drop_eq_nil_of_le (by omega), List.append_nil]
  exact ho
 ·
  rcases hown.2 with ⟨rfl, rfl⟩ | ⟨g, cap, cur, rfl, hbg, hg, hnc, hcm, hcs, htake⟩
  ·
   omega
  ·
   try simp only [Nat.mul_one] at hcs htake
   have hP : (cs.take (i * 3)).length = i * 3 := by rw [List.length_take]; omega
   have hT : (cs.drop (i * 3)).length = (n - i) * 3 := by rw [List.length_drop]; omega
   have h1T : ∀ u ∈ cs.drop (i * 3), u.oneCell' = true := fun u hu => h1c u (List.mem_of_mem_drop hu)
   have hres : (cs.take (i * 3) ++ (x ++ cs.drop (i * 3))).length = (n + 1) * 3 := by simp only [List.length_append, hP, hT, hx]; omega
   by_cases hroom : n + 1 ≤ cap
   ·
    refine (insert_mark_room g cap cur n i (cs.take (i * 3)) (cs.drop (i * 3)) x vb tV w hg (by omega) hroom hcm hcs (by rw [htake, List.take_append_drop]) hP hT hx hv (fun h => hne (by rw [h]; rfl)) h1 h1T).mono ?_
    rintro e w' ⟨rfl, rfl⟩
    refine ⟨_, rfl, ⟨by rw [hres]; try omega, .inr ⟨g, cap, _, rfl, hbg, setRow_heap _ _ _ _ _ _ (setRow_heap w.drew _ _ _ _ _ hg), hroom, hcm, ?_, ?_⟩⟩, ⟨rfl, rfl, rfl, by simp [World.setRow], fun k hk hr => ?_⟩⟩
    ·
     have e1 : (splice cur.toList ((i + 1) * 3) (cs.drop (i * 3))).length = cap * 3 := by rw [length_splice _ _ _ (by rw [hT, Array.length_toList, hcs]; omega), Array.length_toList, hcs]
     have e2 := length_splice (splice cur.toList ((i + 1) * 3) (cs.drop (i * 3))) (i * 3) x (by rw [e1, hx]; omega)
     rw [List.size_toArray]
     omega
    ·
     have h := put_in cur.toList (cs.take (i * 3)) (cs.drop (i * 3)) x 3 hx (by rw [hP, hT, Array.length_toList, hcs]; omega) (by rw [hP, hT, show i * 3 + (n - i) * 3 = n * 3 by omega, htake, List.take_append_drop])
     rw [hP, hT, show i * 3 + 3 = (i + 1) * 3 by omega, show i * 3 + (n - i) * 3 + 3 = (n + 1) * 3 by omega] at h
     first | exact h | simpa using h
    ·
     have hkg : k ≠ g := fun h => hr (by rw [h]; rfl)
     rw [setRow_other _ _ _ _ hkg, setRow_other _ _ _ _ hkg]
     rfl
   ·
    obtain rfl : cap = n := by omega
    have hfull : cur.toList = cs := by rw [← htake, ← hcs, ← Array.length_toList, List.take_length]
    refine (insert_mark_grow g cur cap i (cs.take (i * 3)) (cs.drop (i * 3)) x vb tV w hg (by omega) hbig hcs (by rw [hfull, List.take_append_drop]) hP hT hx hv h1 h1T).mono ?_
    rintro e w' ⟨G, Z, hG1, hG2, hZl, rfl, rfl⟩
    have hN : ((w.alloc (.cells (cs.take (i * 3) ++ Z).toArray 54)).drew).heap[w.heap.size]? = some (.cells (cs.take (i * 3) ++ Z).toArray 54 (0, 0)) := heap_alloc_new _ _
    refine ⟨_, rfl, ⟨by rw [hres]; try omega, .inr ⟨w.heap.size, G, _, rfl, hB, setRow_heap _ _ _ _ _ _ (setRow_heap _ _ _ _ _ _ hN), hG1, hG2, ?_, ?_⟩⟩, ⟨rfl, rfl, rfl, by simp [World.setRow], fun k hk hr => ?_⟩⟩
    ·
     have e0 : (cs.take (i * 3) ++ Z).length = G * 3 := by rw [List.length_append, hP]; omega
     have e1 : (splice (cs.take (i * 3) ++ Z) (i * 3) x).length = G * 3 := by rw [length_splice _ _ _ (by rw [e0, hx]; omega), e0]
     have e2 := length_splice (splice (cs.take (i * 3) ++ Z) (i * 3) x) ((i + 1) * 3) (cs.drop (i * 3)) (by rw [e1, hT]; omega)
     rw [List.size_toArray]
     omega
    ·
     have h := put_new (cs.take (i * 3) ++ Z) (cs.take (i * 3)) (cs.drop (i * 3)) x Z 3 hx rfl (by rw [hT]; omega)
     rw [hP, hT, show i * 3 + 3 = (i + 1) * 3 by omega, show i * 3 + (cap - i) * 3 + 3 = (cap + 1) * 3 by omega] at h
     first | exact h | simpa using h
    ·
     have hkg : k ≠ w.heap.size := by omega
     rw [setRow_other _ _ _ _ hkg]
     show (World.setRow _ _ _).heap[k]? = _
     rw [setRow_other _ _ _ _ hkg]
     exact heap_alloc_old w _ hk
end Go.Proofs.Ytcbfnmabckjijaa.Si
