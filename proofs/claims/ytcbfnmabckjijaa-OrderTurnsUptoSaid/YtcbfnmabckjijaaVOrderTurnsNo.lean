import Derived.Test.YtcbfnmabckjijaaVOrderTurnsOr
import Derived.Test.YtcbfnmabckjijaaVOrderTurnsWShare
import Derived.Test.YtcbfnmabckjijaaVOrderTurnsWMore
import Derived.ScopeJumps
import Derived.Deep.Onto
import Derived.WalkMore
/- Trimmed by a program. By an AI agent. -/
namespace Go.Proofs.Ytcbfnmabckjijaa.Si
open Go.RowKit Go.Lib Go.Proofs.YtcbfnmabckjijaaW.PrintWords Go.Proofs.YtcbfnmabckjijaaW.PrintLast Go.Proofs.YtcbfnmabckjijaaW.PrintMore
set_option linter.unusedVariables false
set_option linter.unusedSimpArgs false
theorem wp_skip_seq {P : Program} {a : Act} {w : World} {Q : Exit → Act → World → Prop} {c : Code} (h : c.wp P Q a w) : (Code.skip.seq c).wp P Q a w := wp_seq (wp_skip h)
theorem wp_label_jumps {P : Program} {a : Act} {w : World} {Q : Exit → Act → World → Prop} {c rest : Code} (l : Nat) (J : Act → World → Prop) (μ : Act → World → Nat) (hf : findLabel c l = some (Code.skip.seq rest))
  (pass : ∀ a w, J a w → rest.wp P (Exit.jump l (fun a' w' => J a' w' ∧ μ a' w' < μ a w) Q) a w)
  (first : (∀ a w, J a w → rest.wp P (Exit.jump l J Q) a w) → c.wp P (Exit.jump l J Q) a w) : (Code.scope c).wp P Q a w :=
 wp_scope_jumps l J μ hf (first fun a w hJ => Code.wp_mono (fun e a' w' h => by
  cases e with
  | goto l' => exact ⟨h.1, h.2.1⟩
  | _ => exact h) (pass a w hJ)) (fun a w hJ => wp_skip_seq (pass a w hJ))
def place {α : Type} (p : α → Bool) (l : List α) : Nat := if 0 ≤ ixL p l 0 then (ixL p l 0).toNat else l.length
def insAt {α : Type} (p : α → Bool) (x : α) (l : List α) : List α := l.take (place p l) ++ (x :: l.drop (place p l))
def lowP : Int → List Int → Int × List Int
 | lo, [] => (lo, [])
 | lo, a :: r => if wrap64 (a - 1) = lo then lowP (wrap64 (lo + 1)) r else (lo, a :: r)
def cellsM : List MR → List Value
 | [] => []
 | x :: r => .int .i64 x.1 :: .int .i64 x.2.1 :: .slice x.2.2.1 x.2.2.2.1 x.2.2.2.2 :: cellsM r
theorem cellsM_length : ∀ rs : List MR, (cellsM rs).length = rs.length * 3
 | [] => rfl
 | x :: r => by simp [cellsM, cellsM_length r]; omega
theorem cellsM_take : ∀ (rs : List MR) (i : Nat), (cellsM rs).take (i * 3) = cellsM (rs.take i)
 | [], i => by simp [cellsM]
 | x :: r, 0 => by simp [cellsM]
 | x :: r, i + 1 => by rw [show (i + 1) * 3 = i * 3 + 1 + 1 + 1 by omega]; simp only [cellsM, List.take_succ_cons, cellsM_take r i]
theorem cellsM_drop : ∀ (rs : List MR) (i : Nat), (cellsM rs).drop (i * 3) = cellsM (rs.drop i)
 | [], i => by simp [cellsM]
 | x :: r, 0 => by simp [cellsM]
 | x :: r, i + 1 => by rw [show (i + 1) * 3 = i * 3 + 1 + 1 + 1 by omega]; simp only [cellsM, List.drop_succ_cons, cellsM_drop r i]
theorem cellsM_append : ∀ (rs qs : List MR), cellsM rs ++ cellsM qs = cellsM (rs ++ qs)
 | [], qs => rfl
 | x :: r, qs => by simp only [cellsM, List.cons_append, cellsM_append r qs]
theorem cellsM_one : ∀ (rs : List MR), ∀ u ∈ cellsM rs, u.oneCell' = true
 | [], u, h => by simp [cellsM] at h
 | x :: r, u, h => by
  simp only [cellsM, List.mem_cons] at h
  rcases h with rfl | rfl | rfl | h
  ·
   rfl
  ·
   rfl
  ·
   rfl
  ·
   exact cellsM_one r u h
theorem add_more (ad : Addr) (k j : Nat) (hj : 0 < j) : (⟨(ad.add k).block, (ad.add k).off + j, none⟩ : Addr) = ad.add (k + j) := by
 unfold Addr.add
 by_cases h : k = 0
 ·
  subst h
  rw [if_pos rfl, Nat.zero_add, if_neg (by omega)]
 ·
  rw [if_neg h, if_neg (by omega)]
  simp [Nat.add_assoc]
theorem cellsM_get : ∀ (rs : List MR) (j : Nat) (u : Value), (cellsM rs)[j]? = some u → ∃ i x, rs[i]? = some x ∧ ((j = i * 3 ∧ u = .int .i64 x.1) ∨ (j = i * 3 + 1 ∧ u = .int .i64 x.2.1) ∨ (j = i * 3 + 2 ∧ u = .slice x.2.2.1 x.2.2.2.1 x.2.2.2.2))
 | [], j, u, h => by simp [cellsM] at h
 | x :: r, 0, u, h => ⟨0, x, rfl, .inl ⟨rfl, by simpa [cellsM] using h.symm⟩⟩
 | x :: r, 1, u, h => ⟨0, x, rfl, .inr (.inl ⟨rfl, by simpa [cellsM] using h.symm⟩)⟩
 | x :: r, 2, u, h => ⟨0, x, rfl, .inr (.inr ⟨rfl, by simpa [cellsM] using h.symm⟩)⟩
 | x :: r, j + 3, u, h => by
  obtain ⟨i, y, hy, hc⟩ := cellsM_get r j u (by simpa [cellsM] using h)
  refine ⟨i + 1, y, by simpa using hy, ?_⟩
  rcases hc with ⟨h1, h2⟩ | ⟨h1, h2⟩ | ⟨h1, h2⟩
  ·
   exact .inl ⟨by omega, h2⟩
  ·
   exact .inr (.inl ⟨by omega, h2⟩)
  ·
   exact .inr (.inr ⟨by omega, h2⟩)
theorem cellsM_at : ∀ (rs : List MR) (i : Nat) (x : MR), rs[i]? = some x → (cellsM rs)[i * 3]? = some (.int .i64 x.1) ∧ (cellsM rs)[i * 3 + 1]? = some (.int .i64 x.2.1) ∧ (cellsM rs)[i * 3 + 2]? = some (.slice x.2.2.1 x.2.2.2.1 x.2.2.2.2)
 | [], i, x, h => by simp at h
 | y :: r, 0, x, h => by
  have e : y = x := by simpa using h
  subst e
  exact ⟨rfl, rfl, rfl⟩
 | y :: r, i + 1, x, h => by
  obtain ⟨h1, h2, h3⟩ := cellsM_at r i x (by simpa using h)
  rw [show (i + 1) * 3 = i * 3 + 3 by omega]
  exact ⟨by simpa [cellsM] using h1, by rw [show i * 3 + 3 + 1 = (i * 3 + 1) + 3 by omega]; simpa [cellsM] using h2, by rw [show i * 3 + 3 + 2 = (i * 3 + 2) + 3 by omega]; simpa [cellsM] using h3⟩
theorem cellsM_set : ∀ (rs : List MR) (i : Nat) (m : MR), (((cellsM rs).set (i * 3) (.int .i64 m.1)).set (i * 3 + 1) (.int .i64 m.2.1)).set (i * 3 + 2) (.slice m.2.2.1 m.2.2.2.1 m.2.2.2.2) = cellsM (rs.set i m)
 | [], i, m => by simp [cellsM]
 | y :: r, 0, m => by simp [cellsM]
 | y :: r, i + 1, m => by
  rw [show (i + 1) * 3 = i * 3 + 1 + 1 + 1 by omega]
  have := cellsM_set r i m
  simp only [cellsM, List.set_cons_succ, this]
theorem row_cells {W : World} {ad : Addr} {rs : List MR} (h : Rowmark W (some ad) rs) (j : Nat) (u : Value) (hj : (cellsM rs)[j]? = some u) : W.cell? (ad.add j) = some u := by
 obtain ⟨i, x, hx, hc⟩ := cellsM_get rs j u hj
 obtain ⟨ad', e, h0, h1, h2⟩ := h i x hx
 cases e
 rw [add_more _ _ _ (by omega)] at h1 h2
 rcases hc with ⟨rfl, rfl⟩ | ⟨rfl, rfl⟩ | ⟨rfl, rfl⟩
 ·
  exact h0
 ·
  exact h1
 ·
  exact h2
theorem own_row {w : World} {base : Nat} {v : Value} {rs : List MR} (h : w.ownsRow base 54 3 v rs.length (cellsM rs)) : ∃ A c, v = .slice A rs.length c ∧ Rowmark w A rs ∧ (0 < rs.length → ∃ g, A = some ⟨g, 0, none⟩ ∧ base ≤ g ∧ g < w.heap.size) := by
 rcases h.2 with ⟨rfl, h0⟩ | ⟨g, cap, cur, rfl, hb, hg, hnc, hcm, hcs, htake⟩
 ·
  have e : rs = [] := List.eq_nil_of_length_eq_zero h0
  subst e
  exact ⟨none, 0, rfl, fun i x hx => by simp at hx, fun h => by simp at h⟩
 ·
  refine ⟨some ⟨g, 0, none⟩, cap, rfl, fun i x hx => ?_, fun _ => ⟨g, rfl, hb, (Array.getElem?_eq_some_iff.1 hg).1⟩⟩
  obtain ⟨h0, h1, h2⟩ := cellsM_at rs i x hx
  have hcell := h.cells (g := g) rfl
  refine ⟨_, rfl, hcell _ _ h0, ?_, ?_⟩
  ·
   rw [add_more _ _ _ (by omega)]; exact hcell _ _ h1
  ·
   rw [add_more _ _ _ (by omega)]; exact hcell _ _ h2
theorem own_below {w w' : World} {b sz n : Nat} {e : TypeId} {v : Value} {xs : List Value} (h : w.ownsRow b e sz v n xs) (hb : Below w.heap.size w w') : w'.ownsRow b e sz v n xs := by
 refine ⟨h.1, ?_⟩
 rcases h.2 with hn | ⟨g, cap, cur, rfl, h1, hg, rest⟩
 ·
  exact .inl hn
 ·
  exact .inr ⟨g, cap, cur, rfl, h1, (hb.block g (Array.getElem?_eq_some_iff.1 hg).1).trans hg, rest⟩
theorem place_spec {α : Type} (p : α → Bool) (l : List α) : (0 ≤ ixL p l 0 → ixL p l 0 = ((place p l : Nat) : Int)) ∧ (¬ 0 ≤ ixL p l 0 → place p l = l.length) ∧ place p l ≤ l.length := by
 unfold place
 refine ⟨fun h => by rw [if_pos h]; exact (Int.toNat_of_nonneg h).symm, fun h => if_neg h, ?_⟩
 split
 ·
  rename_i h
  obtain ⟨k, hk, hkl⟩ := ixL_lt p l 0 h
  omega
 ·
  exact Nat.le_refl _
theorem row_int {W : World} {ok : Nat → Prop} {A : Option Addr} {l : List Int} (h : Kd.F (Kd.int .i64) W ok A l.length l) : Rowint W A l := by
 intro i x hx
 have hC := Kd.F_now h
 have hi : i < l.length := (List.getElem?_eq_some_iff.1 hx).1
 obtain ⟨ad, hA, hc⟩ := hC.2.2 (by omega)
 obtain ⟨cs, _, hK, hcs⟩ := hc i x hx
 have hK' : cs = [.int .i64 x] := hK
 subst hK'
 have h0 := hcs 0 _ rfl
 refine ⟨ad, hA, ?_⟩
 have e3 : (Kd.int .i64).sz = 1 := rfl
 rw [e3, Nat.mul_one, Nat.add_zero] at h0
 exact h0
theorem F_own {w : World} {base : Nat} {v : Value} {l : List Int} (h : w.ownsRow base 3 1 v l.length (l.map (Value.int .i64))) : ∃ A c, v = .slice A l.length c ∧ l.length ≤ c ∧ Kd.F (Kd.int .i64) w (fun k => base ≤ k) A l.length l := by
 rcases h.2 with ⟨rfl, h0⟩ | ⟨g, cap, cur, rfl, hb, hg, hnc, hcm, hcs, htake⟩
 ·
  have e : l = [] := List.eq_nil_of_length_eq_zero h0
  subst e
  exact ⟨none, 0, rfl, Nat.le_refl _, Kd.F_nil _ _ _⟩
 ·
  refine ⟨some ⟨g, 0, none⟩, cap, rfl, hnc, fun W' hW => ?_⟩
  have hlt : g < w.heap.size := (Array.getElem?_eq_some_iff.1 hg).1
  have hg' := (hW g hb hlt).trans hg
  refine ⟨rfl, by unfold maxLen at hcm; omega, fun _ => ⟨_, rfl, fun j x hj => ⟨[.int .i64 x], rfl, rfl, fun i u hu => ?_⟩⟩⟩
  cases i with
  | succ i => simp at hu
  | zero =>
   have hu' : u = .int .i64 x := by simpa using hu.symm
   subst hu'
   have e1 : (cur.toList.take (l.length * 1))[j]? = some (Value.int .i64 x) := by rw [htake, List.getElem?_map, hj]; rfl
   have e2 : cur.toList[j]? = some (Value.int .i64 x) := by
    rw [List.getElem?_take] at e1
    split at e1
    ·
     exact e1
    ·
     cases e1
   have e3 : (Kd.int .i64).sz = 1 := rfl
   rw [add_plain, e3, cell_of_row W' g _ cur _ (0, 0) hg', ← Array.getElem?_toList]
   simpa using e2
def muN (a : Act) (w : World) : Nat := match a.tmps.getD 7 undef with
 | .pointer (some p) => (match w.cell? ⟨p.block, 2, none⟩ with
  | some (.slice _ n _) => n
  | _ => 0)
 | _ => 0
structure NoteJ (w : World) (o o' lo0 : Int) (l0 : List Int) (bm : Nat) (lo : Int) (l : List Int) (A' : Option Addr) (c' : Nat) (W : World) : Prop where
 b0 : W.heap[w.heap.size]? = some (.cells #[.int .i64 o] 3 (0, 0))
 bM : W.heap[bm]? = some (.cells #[.int .i64 o', .int .i64 lo, .slice A' l.length c'] 54 (0, 0))
 hbm : w.heap.size + 1 < bm
 hF : Kd.F (Kd.int .i64) W (fun k => bm < k) A' l.length l
 hc : l.length ≤ c'
 fin : lowP lo l = lowP lo0 l0
 bel : Below w.heap.size w W
def NoteA (A : Option Addr) (c : Nat) (rs : List MR) (o s : Int) (w : World) (o' at0 lo : Int) (l0 : List Int) (a' : Act) (w' : World) : Prop := ∃ (bm : Nat) (lo1 : Int) (l1 : List Int) (A1 : Option Addr) (c1 : Nat) (f : Nat → Value),
  a' = { tmps := #[.slice A rs.length c, .int .i64 o, .int .i64 s, undef, .pointer (some ⟨w.heap.size, 0, none⟩), .pointer (some ⟨w.heap.size + 1, 0, none⟩), .slice none 0 0, .pointer (some ⟨bm, 0, none⟩), .int .i64 at0, f 9, f 10, f 11, f 12, f 13, f 14, f 15, f 16, f 17, f 18, f 19, f 20, f 21, f 22, f 23, f 24, f 25, f 26, f 27, f 28, f 29, f 30, f 31, f 32, f 33, f 34, f 35, f 36, f 37, f 38, f 39, f 40, f 41, f 42, f 43, f 44, f 45, f 46, f 47, f 48, f 49, f 50, f 51, f 52, f 53, f 54, f 55, f 56, f 57, f 58, f 59, f 60, f 61, f 62, f 63, f 64, f 65, f 66, f 67, f 68, f 69, f 70, f 71, f 72, f 73, f 74, f 75, f 76, f 77, f 78, f 79, f 80, f 81, f 82], defers := [] } ∧ NoteJ w o o' lo l0 bm lo1 l1 A1 c1 w'
theorem NoteA.mk {A : Option Addr} {c : Nat} {rs : List MR} {o s : Int} {w : World} {o' at0 lo : Int} {l0 : List Int} {a' : Act} {w' : World} (bm : Nat) (lo1 : Int) (l1 : List Int) (A1 : Option Addr) (c1 : Nat)
  (h : a' = { tmps := #[.slice A rs.length c, .int .i64 o, .int .i64 s, undef, .pointer (some ⟨w.heap.size, 0, none⟩), .pointer (some ⟨w.heap.size + 1, 0, none⟩), .slice none 0 0, .pointer (some ⟨bm, 0, none⟩), .int .i64 at0, a'.tmps.getD 9 undef, a'.tmps.getD 10 undef, a'.tmps.getD 11 undef, a'.tmps.getD 12 undef, a'.tmps.getD 13 undef, a'.tmps.getD 14 undef, a'.tmps.getD 15 undef, a'.tmps.getD 16 undef, a'.tmps.getD 17 undef, a'.tmps.getD 18 undef, a'.tmps.getD 19 undef, a'.tmps.getD 20 undef, a'.tmps.getD 21 undef, a'.tmps.getD 22 undef, a'.tmps.getD 23 undef, a'.tmps.getD 24 undef, a'.tmps.getD 25 undef, a'.tmps.getD 26 undef, a'.tmps.getD 27 undef, a'.tmps.getD 28 undef, a'.tmps.getD 29 undef, a'.tmps.getD 30 undef, a'.tmps.getD 31 undef, a'.tmps.getD 32 undef, a'.tmps.getD 33 undef, a'.tmps.getD 34 undef, a'.tmps.getD 35 undef, a'.tmps.getD 36 undef, a'.tmps.getD 37 undef, a'.tmps.getD 38 undef, a'.tmps.getD 39 undef, a'.tmps.getD 40 undef, a'.tmps.getD 41 undef, a'.tmps.getD 42 undef, a'.tmps.getD 43 undef, a'.tmps.getD 44 undef, a'.tmps.getD 45 undef, a'.tmps.getD 46 undef, a'.tmps.getD 47 undef, a'.tmps.getD 48 undef, a'.tmps.getD 49 undef, a'.tmps.getD 50 undef, a'.tmps.getD 51 undef, a'.tmps.getD 52 undef, a'.tmps.getD 53 undef, a'.tmps.getD 54 undef, a'.tmps.getD 55 undef, a'.tmps.getD 56 undef, a'.tmps.getD 57 undef, a'.tmps.getD 58 undef, a'.tmps.getD 59 undef, a'.tmps.getD 60 undef, a'.tmps.getD 61 undef, a'.tmps.getD 62 undef, a'.tmps.getD 63 undef, a'.tmps.getD 64 undef, a'.tmps.getD 65 undef, a'.tmps.getD 66 undef, a'.tmps.getD 67 undef, a'.tmps.getD 68 undef, a'.tmps.getD 69 undef, a'.tmps.getD 70 undef, a'.tmps.getD 71 undef, a'.tmps.getD 72 undef, a'.tmps.getD 73 undef, a'.tmps.getD 74 undef, a'.tmps.getD 75 undef, a'.tmps.getD 76 undef, a'.tmps.getD 77 undef, a'.tmps.getD 78 undef, a'.tmps.getD 79 undef, a'.tmps.getD 80 undef, a'.tmps.getD 81 undef, a'.tmps.getD 82 undef], defers := [] }) (hJ : NoteJ w o o' lo l0 bm lo1 l1 A1 c1 w') : NoteA A c rs o s w o' at0 lo l0 a' w' := ⟨bm, lo1, l1, A1, c1, fun i => a'.tmps.getD i undef, h, hJ⟩
set_option maxHeartbeats 8000000 in
set_option maxRecDepth 100000 in
theorem note_c (A : Option Addr) (c : Nat) (rs : List MR) (o s : Int) (w : World) (hr : Rowmark w A rs) (A' : Option Addr) (c' : Nat) (l : List Int) (o' lo at0 : Int) (hm : ofR rs o = ((o', lo, A', l.length, c'), at0))
  (hF : Kd.F (Kd.int .i64) w (fun k => k < w.heap.size) A' l.length l) (hc : l.length ≤ c') (hlen : rs.length * 40 + 40 ≤ 140737488355328) (hlen' : l.length * 8 + 8 ≤ 140737488355328) (hf : freshR o s lo l = true) :
  Calls Try.prog 19 #[.slice A rs.length c, .int .i64 o, .int .i64 s] w fun e w' => ∃ (v : Value) (A2 : Option Addr) (c2 n2 : Nat), e = .returned v ∧
   w'.ownsRow w.heap.size 54 3 v n2 (cellsM (if 0 ≤ at0 then rs.set at0.toNat (o', (lowP lo (insAt (fun x => decide (x > s)) s l)).1, A2, (lowP lo (insAt (fun x => decide (x > s)) s l)).2.length, c2) else insAt (fun x => decide (x.1 > o)) (o', (lowP lo (insAt (fun x => decide (x > s)) s l)).1, A2, (lowP lo (insAt (fun x => decide (x > s)) s l)).2.length, c2) rs)) ∧
   Kd.F (Kd.int .i64) w' (fun k => w.heap.size ≤ k) A2 (lowP lo (insAt (fun x => decide (x > s)) s l)).2.length (lowP lo (insAt (fun x => decide (x > s)) s l)).2 ∧ (lowP lo (insAt (fun x => decide (x > s)) s l)).2.length ≤ c2 ∧ Below w.heap.size w w' := by
 have hrow : Rowint w A' l := row_int hF
 have HFR := Lib.hid (fun (w1 : World) (hb : Below w.heap.size w w1) => fresh_c A c rs o s w1 (Rowmark_below hr hb) (by omega) A' c' l (by rw [hm]) (Rowint_below hrow hb) (by omega))
 have HOF := Lib.hid (fun (w1 : World) (hb : Below w.heap.size w w1) => of_c A c rs o w1 (Rowmark_below hr hb) (by omega))
 rw [hm] at HFR
 rw [hm] at HOF
 simp only [hf] at HFR
 have HIX := Lib.hid (fun (w1 : World) (b : Nat) (hb : Below w.heap.size w w1) (hs : w1.cell? ⟨b, 0, none⟩ = some (.int .i64 s)) => index_int A' c' l 42 (.pointer (some ⟨b, 0, none⟩)) (fun x => decide (x > s)) w1 (Rowint_below hrow hb) (by omega) (enters_s Try.func42 rfl rfl) (fun W x hx hbW => note1_c x s b W ((hbW.cell (World.block_lt_of_cell? _ _ hs)).trans hs)))
 have hat : 0 ≤ at0 → ∃ k : Nat, at0 = (k : Int) ∧ k < rs.length := by
  intro h
  have e : at0 = (ofR rs o).2 := by rw [hm]
  unfold ofR at e
  split at e
  ·
   rename_i hz
   obtain ⟨k, hk, hkl⟩ := ixL_lt (fun x : MR => x.1 == o) rs 0 hz
   exact ⟨k, by rw [e, hk, Nat.zero_add], hkl⟩
  ·
   omega
 have HAT := Lib.hid hat
 have HCM := Lib.hid (fun (w1 : World) (hb : Below w.heap.size w w1) => clone_mark A rs.length c (cellsM rs) w1 (cellsM_length rs) (fun h => by
   cases rs with
   | nil => rfl
   | cons x r =>
    obtain ⟨ad, e, _⟩ := hr 0 x rfl
    rw [h] at e; cases e) (by omega) (fun a ha j u hj => by
     subst ha
     exact row_cells (Rowmark_below hr hb) j u hj) (cellsM_one rs))
 have HR := Lib.hid hr
 have HF := Lib.hid hF
 have HL := Lib.hid hlen
 have HL' := Lib.hid hlen'
 have HC := Lib.hid hc
 clear hr hF hlen hlen' hc hrow hf hm hat
 generalize hl0 : insAt (fun x => decide (x > s)) s l = l0
 go_enter Try.func19, Try.ntmps19
 go_wp2_with fail
 refine wp_label_jumps 0 (NoteA A c rs o s w o' at0 lo l0) muN rfl ?pass ?first
 case first =>
  intro hrest
  go_wp2_with fail
  have B0 : Below w.heap.size w ((w.alloc (.cells #[.int .i64 o] 3)).alloc (.cells #[.int .i64 s] 3)) := ((Below.refl _ _).alloc (Nat.le_refl _) _).alloc (by simp) _
  have K0 : ((w.alloc (.cells #[.int .i64 o] 3)).alloc (.cells #[.int .i64 s] 3)).heap[w.heap.size]? = some (.cells #[.int .i64 o] 3 (0, 0)) := blk_alloc (blk_new _ _) _
  have K1 : ((w.alloc (.cells #[.int .i64 o] 3)).alloc (.cells #[.int .i64 s] 3)).heap[w.heap.size + 1]? = some (.cells #[.int .i64 s] 3 (0, 0)) := by
   have := blk_new (w.alloc (.cells #[.int .i64 o] 3)) (.cells #[.int .i64 s] 3)
   simpa using this
  refine (HFR.out _ B0).mono ?_
  rintro e w1 ⟨rfl, hb⟩
  have B1 := Lib.hid (B0.trans (hb.mono B0.size))
  have J0 := Lib.hid (blk_below K0 hb)
  have J1 := Lib.hid (blk_below K1 hb)
  have c0 : w1.cell? ⟨w.heap.size, 0, none⟩ = some (.int .i64 o) := (blk_cell J0.out 0).trans rfl
  clear hb K0 K1 B0
  go_wp2_with fail
  refine (HOF.out w1 B1.out).mono ?_
  rintro e w2 ⟨rfl, hb⟩
  have B2 := Lib.hid (B1.out.trans (hb.mono B1.out.size))
  have K0 := Lib.hid (blk_below J0.out hb)
  have K1 := Lib.hid (blk_below J1.out hb)
  have lt1 : w.heap.size + 1 < w2.heap.size := (Array.getElem?_eq_some_iff.1 K1.out).1
  clear hb c0 J0 J1 B1
  have B3 := Lib.hid (B2.out.alloc B2.out.size (.cells #[.int .i64 o', .int .i64 lo, .slice A' l.length c'] 54))
  have HI := Lib.hid (HIX.out _ (w.heap.size + 1) B3.out ((blk_cell (blk_alloc K1.out _) 0).trans rfl))
  go_wp2_with fail
  refine HI.out.mono ?_
  rintro e w4 ⟨rfl, hb⟩
  have B4 := Lib.hid (B3.out.trans (hb.mono B3.out.size))
  have M0 := Lib.hid (blk_below (blk_alloc K0.out _) hb)
  have M1 := Lib.hid (blk_below (blk_alloc K1.out _) hb)
  have MM := Lib.hid (blk_below (blk_new w2 (.cells #[.int .i64 o', .int .i64 lo, .slice A' l.length c'] 54)) hb)
  clear hb HI B3 K0 K1
  have hpl : (0 ≤ ixL (fun x => decide (x > s)) l 0 → ixL (fun x => decide (x > s)) l 0 = ((place (fun x => decide (x > s)) l : Nat) : Int)) ∧ (¬ 0 ≤ ixL (fun x => decide (x > s)) l 0 → place (fun x => decide (x > s)) l = l.length) ∧ place (fun x => decide (x > s)) l ≤ l.length := by
   unfold place
   refine ⟨fun h => by rw [if_pos h]; exact (Int.toNat_of_nonneg h).symm, fun h => if_neg h, ?_⟩
   split
   ·
    rename_i h
    obtain ⟨k, hk, hkl⟩ := ixL_lt (fun x => decide (x > s)) l 0 h
    omega
   ·
    exact Nat.le_refl _
  unfold insAt at hl0
  generalize ixL (fun x => decide (x > s)) l 0 = z at hpl ⊢
  generalize place (fun x => decide (x > s)) l = pl at hpl hl0
  obtain ⟨hp1, hp2, hp3⟩ := hpl
  have HCL := Lib.hid (fun (w5 : World) (hb : Below w.heap.size w w5) => clone_int A' l.length c' (l.map (Value.int .i64)) w5 (by simp) (fun h => by
   have := row_int HF.out
   cases l with
   | nil => rfl
   | cons x r =>
    obtain ⟨ad, e, _⟩ := this 0 x rfl
    rw [h] at e; cases e) (by have := HL'.out; omega) (fun a ha j u hj => by
     rw [List.getElem?_map, Option.map_eq_some_iff] at hj
     obtain ⟨x, hx, rfl⟩ := hj
     obtain ⟨ad, e, hc⟩ := Rowint_below (row_int HF.out) hb j x hx
     rw [ha] at e; cases e; exact hc) (by simp [Value.oneCell']))
  have m2 : w4.cell? ⟨w2.heap.size, 2, none⟩ = some (.slice A' l.length c') := (blk_cell MM.out 2).trans rfl
  have m1 : w4.cell? ⟨w.heap.size + 1, 0, none⟩ = some (.int .i64 s) := (blk_cell M1.out 0).trans rfl
  by_cases hz : 0 ≤ z
  ·
   rw [hp1 hz]
   have hz' : ((pl : Nat) : Int) < 0 ↔ False := ⟨fun h => by omega, fun h => h.elim⟩
   clear hp1 hp2 hz
   go_wp2_with fail
   refine start_ (n := 9) (S := fun w' : World => w'.cell? ⟨w2.heap.size, 2, none⟩ = some (.slice A' l.length c') ∧ w'.cell? ⟨w.heap.size + 1, 0, none⟩ = some (.int .i64 s)) (ds := [8]) #[false, false, false, false, false, false, false, false, false] (by kernel_rfl) rfl rfl ⟨m2, m1⟩ (fun hHeld => ?_)
   replace M0 := Lib.hid (blk_drew M0.out)
   replace M1 := Lib.hid (blk_drew M1.out)
   replace MM := Lib.hid (blk_drew MM.out)
   replace B4 := Lib.hid (below_drew1 B4.out)
   generalize World.drew _ = w5 at hHeld M0 M1 MM B4 ⊢
   clear m1 m2
   refine pure_ (i := 0) (N := some 32) (v := ?_) (a' := ?_) #[true, false, false, false, false, false, false, false, false] rfl rfl (by kernel_rfl) (fun _ _ _ h => h) (Or.inl ⟨by rfl, ?_⟩) ?_ ?_
   rotate_left
   ·
    intro w'
    go_simp
    with_reducible rfl
   rotate_left
   ·
    simp only [Act.put, List.setIfInBounds_toArray, List.set_cons_zero, List.set_cons_succ, i64_w, i32_w]
    rfl
   refine take_ (i := 1) (N := some 33) (v := ?_) (a' := ?_) #[true, true, false, false, false, false, false, false, false] rfl rfl (by kernel_rfl) (fun _ _ _ h => h) (Or.inl ⟨by rfl, ?_⟩) hHeld ?_ ?_
   rotate_left
   ·
    rintro w' ⟨s0, s1⟩
    go_simp
    with_reducible rfl
   rotate_left
   ·
    simp only [Act.put, List.setIfInBounds_toArray, List.set_cons_zero, List.set_cons_succ, i64_w, i32_w]
    rfl
   refine pure_ (i := 3) (N := some 35) (v := ?_) (a' := ?_) #[true, true, false, true, false, false, false, false, false] rfl rfl (by kernel_rfl) (fun _ _ _ h => h) (Or.inl ⟨by rfl, ?_⟩) ?_ ?_
   rotate_left
   ·
    intro w'
    go_simp
    with_reducible rfl
   rotate_left
   ·
    simp only [Act.put, List.setIfInBounds_toArray, List.set_cons_zero, List.set_cons_succ, i64_w, i32_w]
    rfl
   refine take_ (i := 4) (N := some 36) (v := ?_) (a' := ?_) #[true, true, false, true, true, false, false, false, false] rfl rfl (by kernel_rfl) (fun _ _ _ h => h) (Or.inl ⟨by rfl, ?_⟩) hHeld ?_ ?_
   rotate_left
   ·
    rintro w' ⟨s0, s1⟩
    go_simp
    with_reducible rfl
   rotate_left
   ·
    simp only [Act.put, List.setIfInBounds_toArray, List.set_cons_zero, List.set_cons_succ, i64_w, i32_w]
    rfl
   refine join_ (σ := Value × Nat) 3 #[true, true, true, true, true, true, false, false, false] (fun q => [(34, q.1), (37, .slice (some ⟨q.2, 0, none⟩) 1 1)]) (fun q w' => w'.ownsRow (w2.heap.size + 1) 3 1 q.1 l.length (l.map (Value.int .i64)) ∧ w'.heap[q.2]? = some (.cells #[.int .i64 s] 3 (0, 0)) ∧ some q.2 ≠ q.1.ownBlock ∧ w2.heap.size < q.2 ∧ w'.heap[w.heap.size]? = some (.cells #[.int .i64 o] 3 (0, 0)) ∧ w'.heap[w.heap.size + 1]? = some (.cells #[.int .i64 s] 3 (0, 0)) ∧ w'.heap[w2.heap.size]? = some (.cells #[.int .i64 o', .int .i64 lo, .slice A' l.length c'] 54 (0, 0)) ∧ Below w.heap.size w w') ?_ (fun hcont => ?_)
   rotate_left
   ·
    have lt5 : w2.heap.size < w5.heap.size := (Array.getElem?_eq_some_iff.1 MM.out).1
    refine two_ (i := 2) (j := 5) (Ni := some 34) (Nj := some 37) #[true, true, true, true, true, false, false, false, false] #[true, true, false, true, true, true, false, false, false] rfl rfl rfl rfl (by kernel_rfl) (by decide) (by decide) (fun K hK => ?_) (fun K hK => ?_)
    ·
     refine goes_ Try.func44 (by kernel_rfl) rfl #[.slice A' l.length c'] (by rfl) rfl rfl (by (try simp only [List.map_toArray, List.map_cons, List.map_nil]); first | done | rfl) ?_
     refine (HCL.out _ B4.out).mono ?_
     rintro e w6 ⟨v6, rfl, hown, hb⟩
     refine ⟨_, rfl, ?_⟩
     have N0 := blk_below M0.out hb
     have N1 := blk_below M1.out hb
     have NM := blk_below MM.out hb
     have NB := below_step B4.out hb
     have hs6 := hb.size
     refine hK.out _ _ ⟨(blk_cell NM 2).trans rfl, (blk_cell N1 0).trans rfl⟩ (fun hHeld => ?_)
     clear hK K
     refine norm_ (a' := ?_) ?_ ?_
     rotate_left
     ·
      show Act.put _ (some 34) _ = _
      simp only [Act.put, List.setIfInBounds_toArray, List.set_cons_zero, List.set_cons_succ, i64_w, i32_w]
      rfl
     refine one_ (i := 5) (N := some 37) #[true, true, true, true, true, true, false, false, false] rfl rfl (by kernel_rfl) (by decide) (fun K hK => ?_)
     refine value_ (v := ?_) (w1 := ?_) (by rfl) rfl ?_ ?_
     rotate_left
     rotate_left
     ·
      go_simp
      first | rfl | (constructor <;> rfl)
     refine hK.out _ _ ⟨(blk_cell (blk_alloc NM _) 2).trans rfl, (blk_cell (blk_alloc N1 _) 0).trans rfl⟩ (fun hHeld => ?_)
     have hc := hcont (v6, w6.heap.size) _ ⟨(hown.alloc _).mono (by omega), blk_new _ _, fun h => by have := (hown.lt _ h.symm).2; omega, by show w2.heap.size < w6.heap.size; omega, blk_alloc N0 _, blk_alloc N1 _, blk_alloc NM _, NB.alloc NB.size _⟩
     refine norm_ ?_ hc
     simp only [putAll, Act.put, List.setIfInBounds_toArray, List.set_cons_zero, List.set_cons_succ, i64_w, i32_w]
     try rfl
    ·
     refine value_ (v := ?_) (w1 := ?_) (by rfl) rfl ?_ ?_
     rotate_left
     rotate_left
     ·
      go_simp
      first | rfl | (constructor <;> rfl)
     refine hK.out _ _ ⟨(blk_cell (blk_alloc MM.out _) 2).trans rfl, (blk_cell (blk_alloc M1.out _) 0).trans rfl⟩ (fun hHeld => ?_)
     clear hK K
     refine norm_ (a' := ?_) ?_ ?_
     rotate_left
     ·
      show Act.put _ (some 37) _ = _
      simp only [Act.put, List.setIfInBounds_toArray, List.set_cons_zero, List.set_cons_succ, i64_w, i32_w]
      rfl
     refine one_ (i := 2) (N := some 34) #[true, true, true, true, true, true, false, false, false] rfl rfl (by kernel_rfl) (by decide) (fun K hK => ?_)
     refine goes_ Try.func44 (by kernel_rfl) rfl #[.slice A' l.length c'] (by rfl) rfl rfl (by (try simp only [List.map_toArray, List.map_cons, List.map_nil]); first | done | rfl) ?_
     refine (HCL.out _ (B4.out.alloc B4.out.size _)).mono ?_
     rintro e w6 ⟨v6, rfl, hown, hb⟩
     refine ⟨_, rfl, ?_⟩
     have N0 := blk_below (blk_alloc M0.out _) hb
     have N1 := blk_below (blk_alloc M1.out _) hb
     have NM := blk_below (blk_alloc MM.out _) hb
     have NV := blk_below (blk_new w5 _) hb
     have NB := below_step (B4.out.alloc B4.out.size _) hb
     refine hK.out _ _ ⟨(blk_cell NM 2).trans rfl, (blk_cell N1 0).trans rfl⟩ (fun hHeld => ?_)
     have hc := hcont (v6, w5.heap.size) _ ⟨hown.mono (by simp; omega), NV, fun h => by have := (hown.lt _ h.symm).1; simp at this; omega, lt5, N0, N1, NM, NB⟩
     refine norm_ ?_ hc
     simp only [putAll, Act.put, List.setIfInBounds_toArray, List.set_cons_zero, List.set_cons_succ, i64_w, i32_w]
     try rfl
   clear hHeld M0 M1 MM B4 w5
   rintro ⟨v6, vb⟩ w6 ⟨hown, hvb, hne, lvb, N0, N1, NM, NB⟩
   refine norm_ (a' := ?_) ?_ ?_
   rotate_left
   ·
    simp only [putAll, Act.put, List.setIfInBounds_toArray, List.set_cons_zero, List.set_cons_succ, i64_w, i32_w]
    rfl
   refine one_ (i := 6) (N := some 38) #[true, true, true, true, true, true, true, false, false] rfl rfl (by kernel_rfl) (by decide) (fun K hK => ?_)
   refine goes_ Try.func43 (by kernel_rfl) rfl #[v6, .int .i64 pl, .slice (some ⟨vb, 0, none⟩) 1 1] (by rfl) rfl rfl (by (try simp only [List.map_toArray, List.map_cons, List.map_nil]); first | done | rfl) ?_
   have lt6 : w2.heap.size < w6.heap.size := (Array.getElem?_eq_some_iff.1 NM).1
   refine (insert_int (w2.heap.size + 1) v6 l.length pl (l.map (Value.int .i64)) [.int .i64 s] vb _ w6 hown hp3 rfl hvb hne (by omega) (by have := HL'.out; omega) (by simp [Value.oneCell']) (by simp [Value.oneCell'])).mono ?_
   rintro e w7 ⟨v7, rfl, hown7, hgr⟩
   refine ⟨_, rfl, ?_⟩
   have hlo : ∀ k, k ≤ w2.heap.size → some k ≠ v6.ownBlock := fun k hk h => by have := (hown.lt _ h.symm).1; omega
   have R0 : w7.heap[w.heap.size]? = some (.cells #[.int .i64 o] 3 (0, 0)) := (hgr.block _ (by omega) (hlo _ (by omega))).trans N0
   have R1 : w7.heap[w.heap.size + 1]? = some (.cells #[.int .i64 s] 3 (0, 0)) := (hgr.block _ (by omega) (hlo _ (by omega))).trans N1
   have RM : w7.heap[w2.heap.size]? = some (.cells #[.int .i64 o', .int .i64 lo, .slice A' l.length c'] 54 (0, 0)) := (hgr.block _ lt6 (hlo _ (by omega))).trans NM
   have RB : Below w.heap.size w w7 := NB.grown hgr (by omega) (fun k hk => by have := (hown.lt k hk).1; omega)
   have e1 : (l.map (Value.int .i64)).take pl ++ ([Value.int .i64 s] ++ (l.map (Value.int .i64)).drop pl) = l0.map (Value.int .i64) := by
    rw [← hl0, List.map_append, List.map_cons, List.map_take, List.map_drop]
    rfl
   have hl0len : l0.length = l.length + 1 := by rw [← hl0]; simp only [List.length_append, List.length_take, List.length_cons, List.length_drop]; omega
   have hown8 : w7.ownsRow (w2.heap.size + 1) 3 1 v7 l0.length (l0.map (Value.int .i64)) := by
    rw [hl0len, ← e1]
    exact hown7
   obtain ⟨A1, c1, rfl, hc1, hF1⟩ := F_own hown8
   clear hown7 hown8 e1 hl0len
   refine hK.out _ _ ⟨(blk_cell RM 2).trans rfl, (blk_cell R1 0).trans rfl⟩ (fun hHeld => ?_)
   clear hK K
   refine norm_ (a' := ?_) ?_ ?_
   rotate_left
   ·
    show Act.put _ (some 38) _ = _
    simp only [Act.put, List.setIfInBounds_toArray, List.set_cons_zero, List.set_cons_succ, i64_w, i32_w]
    rfl
   refine pure_ (i := 7) (N := some 39) (v := ?_) (a' := ?_) #[true, true, true, true, true, true, true, true, false] rfl rfl (by kernel_rfl) (fun _ _ _ h => h) (Or.inl ⟨by rfl, ?_⟩) ?_ ?_
   rotate_left
   ·
    intro w'
    go_simp
    with_reducible rfl
   rotate_left
   ·
    simp only [Act.put, List.setIfInBounds_toArray, List.set_cons_zero, List.set_cons_succ, i64_w, i32_w]
    rfl
   have f2 := blk_frozen RM 2
   have q2 : w7.cell? ⟨w2.heap.size, 2, none⟩ = some (.slice A' l.length c') := (blk_cell RM 2).trans rfl
   refine last_ (i := 8) (N := none) #[true, true, true, true, true, true, true, true, true] rfl rfl (by kernel_rfl) (by decide) (fun K hK => ?_)
   refine skip_ (w1 := w7.setCell ⟨w2.heap.size, 2, none⟩ (.slice A1 l0.length c1)) (by rfl) rfl ?_ ?_
   ·
    go_simp
   refine hK.out _ _ ?_
   clear hK K
   refine done_ (by kernel_rfl) ?_
   go_wp2_with fail
   go_step3
   simp only [Exit.then]
   refine (by assumption : ∀ (a : Act) (w : World), Code.wp Try.prog _ _ a w → _ ) _ _ (hrest _ _ ?_)
   refine NoteA.mk w2.heap.size lo l0 A1 c1 rfl ⟨blk_far R0 (by simp; omega) _, (blk_set RM 2 _).trans rfl, lt1, Kd.F_mono (Kd.F_far hF1 (fun k hk => by show k ≠ w2.heap.size; omega) _) (fun k hk => by omega), hc1, rfl, below_set RB (by show w.heap.size ≤ w2.heap.size; omega)⟩
  ·
   have hp2' := hp2 hz
   subst hp2'
   have hz' : decide (z < 0) = true := decide_eq_true (by omega)
   clear hp1 hp2
   go_wp2_with fail
   refine start_ (n := 9) (S := fun w' : World => w'.cell? ⟨w2.heap.size, 2, none⟩ = some (.slice A' l.length c') ∧ w'.cell? ⟨w.heap.size + 1, 0, none⟩ = some (.int .i64 s)) (ds := [8]) #[false, false, false, false, false, false, false, false, false] (by kernel_rfl) rfl rfl ⟨m2, m1⟩ (fun hHeld => ?_)
   replace M0 := Lib.hid (blk_drew M0.out)
   replace M1 := Lib.hid (blk_drew M1.out)
   replace MM := Lib.hid (blk_drew MM.out)
   replace B4 := Lib.hid (below_drew1 B4.out)
   generalize World.drew _ = w5 at hHeld M0 M1 MM B4 ⊢
   clear m1 m2
   refine pure_ (i := 0) (N := some 32) (v := ?_) (a' := ?_) #[true, false, false, false, false, false, false, false, false] rfl rfl (by kernel_rfl) (fun _ _ _ h => h) (Or.inl ⟨by rfl, ?_⟩) ?_ ?_
   rotate_left
   ·
    intro w'
    go_simp
    with_reducible rfl
   rotate_left
   ·
    simp only [Act.put, List.setIfInBounds_toArray, List.set_cons_zero, List.set_cons_succ, i64_w, i32_w]
    rfl
   refine take_ (i := 1) (N := some 33) (v := ?_) (a' := ?_) #[true, true, false, false, false, false, false, false, false] rfl rfl (by kernel_rfl) (fun _ _ _ h => h) (Or.inl ⟨by rfl, ?_⟩) hHeld ?_ ?_
   rotate_left
   ·
    rintro w' ⟨s0, s1⟩
    go_simp
    with_reducible rfl
   rotate_left
   ·
    simp only [Act.put, List.setIfInBounds_toArray, List.set_cons_zero, List.set_cons_succ, i64_w, i32_w]
    rfl
   refine pure_ (i := 3) (N := some 35) (v := ?_) (a' := ?_) #[true, true, false, true, false, false, false, false, false] rfl rfl (by kernel_rfl) (fun _ _ _ h => h) (Or.inl ⟨by rfl, ?_⟩) ?_ ?_
   rotate_left
   ·
    intro w'
    go_simp
    with_reducible rfl
   rotate_left
   ·
    simp only [Act.put, List.setIfInBounds_toArray, List.set_cons_zero, List.set_cons_succ, i64_w, i32_w]
    rfl
   refine take_ (i := 4) (N := some 36) (v := ?_) (a' := ?_) #[true, true, false, true, true, false, false, false, false] rfl rfl (by kernel_rfl) (fun _ _ _ h => h) (Or.inl ⟨by rfl, ?_⟩) hHeld ?_ ?_
   rotate_left
   ·
    rintro w' ⟨s0, s1⟩
    go_simp
    with_reducible rfl
   rotate_left
   ·
    simp only [Act.put, List.setIfInBounds_toArray, List.set_cons_zero, List.set_cons_succ, i64_w, i32_w]
    rfl
   refine join_ (σ := Value × Nat) 3 #[true, true, true, true, true, true, false, false, false] (fun q => [(34, q.1), (37, .slice (some ⟨q.2, 0, none⟩) 1 1)]) (fun q w' => w'.ownsRow (w2.heap.size + 1) 3 1 q.1 l.length (l.map (Value.int .i64)) ∧ w'.heap[q.2]? = some (.cells #[.int .i64 s] 3 (0, 0)) ∧ some q.2 ≠ q.1.ownBlock ∧ w2.heap.size < q.2 ∧ w'.heap[w.heap.size]? = some (.cells #[.int .i64 o] 3 (0, 0)) ∧ w'.heap[w.heap.size + 1]? = some (.cells #[.int .i64 s] 3 (0, 0)) ∧ w'.heap[w2.heap.size]? = some (.cells #[.int .i64 o', .int .i64 lo, .slice A' l.length c'] 54 (0, 0)) ∧ Below w.heap.size w w') ?_ (fun hcont => ?_)
   rotate_left
   ·
    have lt5 : w2.heap.size < w5.heap.size := (Array.getElem?_eq_some_iff.1 MM.out).1
    refine two_ (i := 2) (j := 5) (Ni := some 34) (Nj := some 37) #[true, true, true, true, true, false, false, false, false] #[true, true, false, true, true, true, false, false, false] rfl rfl rfl rfl (by kernel_rfl) (by decide) (by decide) (fun K hK => ?_) (fun K hK => ?_)
    ·
     refine goes_ Try.func44 (by kernel_rfl) rfl #[.slice A' l.length c'] (by rfl) rfl rfl (by (try simp only [List.map_toArray, List.map_cons, List.map_nil]); first | done | rfl) ?_
     refine (HCL.out _ B4.out).mono ?_
     rintro e w6 ⟨v6, rfl, hown, hb⟩
     refine ⟨_, rfl, ?_⟩
     have N0 := blk_below M0.out hb
     have N1 := blk_below M1.out hb
     have NM := blk_below MM.out hb
     have NB := below_step B4.out hb
     have hs6 := hb.size
     refine hK.out _ _ ⟨(blk_cell NM 2).trans rfl, (blk_cell N1 0).trans rfl⟩ (fun hHeld => ?_)
     clear hK K
     refine norm_ (a' := ?_) ?_ ?_
     rotate_left
     ·
      show Act.put _ (some 34) _ = _
      simp only [Act.put, List.setIfInBounds_toArray, List.set_cons_zero, List.set_cons_succ, i64_w, i32_w]
      rfl
     refine one_ (i := 5) (N := some 37) #[true, true, true, true, true, true, false, false, false] rfl rfl (by kernel_rfl) (by decide) (fun K hK => ?_)
     refine value_ (v := ?_) (w1 := ?_) (by rfl) rfl ?_ ?_
     rotate_left
     rotate_left
     ·
      go_simp
      first | rfl | (constructor <;> rfl)
     refine hK.out _ _ ⟨(blk_cell (blk_alloc NM _) 2).trans rfl, (blk_cell (blk_alloc N1 _) 0).trans rfl⟩ (fun hHeld => ?_)
     have hc := hcont (v6, w6.heap.size) _ ⟨(hown.alloc _).mono (by omega), blk_new _ _, fun h => by have := (hown.lt _ h.symm).2; omega, by show w2.heap.size < w6.heap.size; omega, blk_alloc N0 _, blk_alloc N1 _, blk_alloc NM _, NB.alloc NB.size _⟩
     refine norm_ ?_ hc
     simp only [putAll, Act.put, List.setIfInBounds_toArray, List.set_cons_zero, List.set_cons_succ, i64_w, i32_w]
     try rfl
    ·
     refine value_ (v := ?_) (w1 := ?_) (by rfl) rfl ?_ ?_
     rotate_left
     rotate_left
     ·
      go_simp
      first | rfl | (constructor <;> rfl)
     refine hK.out _ _ ⟨(blk_cell (blk_alloc MM.out _) 2).trans rfl, (blk_cell (blk_alloc M1.out _) 0).trans rfl⟩ (fun hHeld => ?_)
     clear hK K
     refine norm_ (a' := ?_) ?_ ?_
     rotate_left
     ·
      show Act.put _ (some 37) _ = _
      simp only [Act.put, List.setIfInBounds_toArray, List.set_cons_zero, List.set_cons_succ, i64_w, i32_w]
      rfl
     refine one_ (i := 2) (N := some 34) #[true, true, true, true, true, true, false, false, false] rfl rfl (by kernel_rfl) (by decide) (fun K hK => ?_)
     refine goes_ Try.func44 (by kernel_rfl) rfl #[.slice A' l.length c'] (by rfl) rfl rfl (by (try simp only [List.map_toArray, List.map_cons, List.map_nil]); first | done | rfl) ?_
     refine (HCL.out _ (B4.out.alloc B4.out.size _)).mono ?_
     rintro e w6 ⟨v6, rfl, hown, hb⟩
     refine ⟨_, rfl, ?_⟩
     have N0 := blk_below (blk_alloc M0.out _) hb
     have N1 := blk_below (blk_alloc M1.out _) hb
     have NM := blk_below (blk_alloc MM.out _) hb
     have NV := blk_below (blk_new w5 _) hb
     have NB := below_step (B4.out.alloc B4.out.size _) hb
     refine hK.out _ _ ⟨(blk_cell NM 2).trans rfl, (blk_cell N1 0).trans rfl⟩ (fun hHeld => ?_)
     have hc := hcont (v6, w5.heap.size) _ ⟨hown.mono (by simp; omega), NV, fun h => by have := (hown.lt _ h.symm).1; simp at this; omega, lt5, N0, N1, NM, NB⟩
     refine norm_ ?_ hc
     simp only [putAll, Act.put, List.setIfInBounds_toArray, List.set_cons_zero, List.set_cons_succ, i64_w, i32_w]
     try rfl
   clear hHeld M0 M1 MM B4 w5
   rintro ⟨v6, vb⟩ w6 ⟨hown, hvb, hne, lvb, N0, N1, NM, NB⟩
   refine norm_ (a' := ?_) ?_ ?_
   rotate_left
   ·
    simp only [putAll, Act.put, List.setIfInBounds_toArray, List.set_cons_zero, List.set_cons_succ, i64_w, i32_w]
    rfl
   refine one_ (i := 6) (N := some 38) #[true, true, true, true, true, true, true, false, false] rfl rfl (by kernel_rfl) (by decide) (fun K hK => ?_)
   refine goes_ Try.func43 (by kernel_rfl) rfl #[v6, .int .i64 l.length, .slice (some ⟨vb, 0, none⟩) 1 1] (by rfl) rfl rfl (by (try simp only [List.map_toArray, List.map_cons, List.map_nil]); first | done | rfl) ?_
   have lt6 : w2.heap.size < w6.heap.size := (Array.getElem?_eq_some_iff.1 NM).1
   refine (insert_int (w2.heap.size + 1) v6 l.length l.length (l.map (Value.int .i64)) [.int .i64 s] vb _ w6 hown hp3 rfl hvb hne (by omega) (by have := HL'.out; omega) (by simp [Value.oneCell']) (by simp [Value.oneCell'])).mono ?_
   rintro e w7 ⟨v7, rfl, hown7, hgr⟩
   refine ⟨_, rfl, ?_⟩
   have hlo : ∀ k, k ≤ w2.heap.size → some k ≠ v6.ownBlock := fun k hk h => by have := (hown.lt _ h.symm).1; omega
   have R0 : w7.heap[w.heap.size]? = some (.cells #[.int .i64 o] 3 (0, 0)) := (hgr.block _ (by omega) (hlo _ (by omega))).trans N0
   have R1 : w7.heap[w.heap.size + 1]? = some (.cells #[.int .i64 s] 3 (0, 0)) := (hgr.block _ (by omega) (hlo _ (by omega))).trans N1
   have RM : w7.heap[w2.heap.size]? = some (.cells #[.int .i64 o', .int .i64 lo, .slice A' l.length c'] 54 (0, 0)) := (hgr.block _ lt6 (hlo _ (by omega))).trans NM
   have RB : Below w.heap.size w w7 := NB.grown hgr (by omega) (fun k hk => by have := (hown.lt k hk).1; omega)
   have e1 : (l.map (Value.int .i64)).take l.length ++ ([Value.int .i64 s] ++ (l.map (Value.int .i64)).drop l.length) = l0.map (Value.int .i64) := by
    rw [← hl0, List.map_append, List.map_cons, List.map_take, List.map_drop]
    rfl
   have hl0len : l0.length = l.length + 1 := by rw [← hl0]; simp only [List.length_append, List.length_take, List.length_cons, List.length_drop]; omega
   have hown8 : w7.ownsRow (w2.heap.size + 1) 3 1 v7 l0.length (l0.map (Value.int .i64)) := by
    rw [hl0len, ← e1]
    exact hown7
   obtain ⟨A1, c1, rfl, hc1, hF1⟩ := F_own hown8
   clear hown7 hown8 e1 hl0len
   refine hK.out _ _ ⟨(blk_cell RM 2).trans rfl, (blk_cell R1 0).trans rfl⟩ (fun hHeld => ?_)
   clear hK K
   refine norm_ (a' := ?_) ?_ ?_
   rotate_left
   ·
    show Act.put _ (some 38) _ = _
    simp only [Act.put, List.setIfInBounds_toArray, List.set_cons_zero, List.set_cons_succ, i64_w, i32_w]
    rfl
   refine pure_ (i := 7) (N := some 39) (v := ?_) (a' := ?_) #[true, true, true, true, true, true, true, true, false] rfl rfl (by kernel_rfl) (fun _ _ _ h => h) (Or.inl ⟨by rfl, ?_⟩) ?_ ?_
   rotate_left
   ·
    intro w'
    go_simp
    with_reducible rfl
   rotate_left
   ·
    simp only [Act.put, List.setIfInBounds_toArray, List.set_cons_zero, List.set_cons_succ, i64_w, i32_w]
    rfl
   have f2 := blk_frozen RM 2
   have q2 : w7.cell? ⟨w2.heap.size, 2, none⟩ = some (.slice A' l.length c') := (blk_cell RM 2).trans rfl
   refine last_ (i := 8) (N := none) #[true, true, true, true, true, true, true, true, true] rfl rfl (by kernel_rfl) (by decide) (fun K hK => ?_)
   refine skip_ (w1 := w7.setCell ⟨w2.heap.size, 2, none⟩ (.slice A1 l0.length c1)) (by rfl) rfl ?_ ?_
   ·
    go_simp
   refine hK.out _ _ ?_
   clear hK K
   refine done_ (by kernel_rfl) ?_
   go_wp2_with fail
   go_step3
   simp only [Exit.then]
   refine (by assumption : ∀ (a : Act) (w : World), Code.wp Try.prog _ _ a w → _ ) _ _ (hrest _ _ ?_)
   refine NoteA.mk w2.heap.size lo l0 A1 c1 rfl ⟨blk_far R0 (by simp; omega) _, (blk_set RM 2 _).trans rfl, lt1, Kd.F_mono (Kd.F_far hF1 (fun k hk => by show k ≠ w2.heap.size; omega) _) (fun k hk => by omega), hc1, rfl, below_set RB (by show w.heap.size ≤ w2.heap.size; omega)⟩
 case pass =>
  rintro a' w' ⟨bm, lo1, l1, A1, c1, f, rfl, H⟩
  obtain ⟨N0, NM, lbm, HF1, hc1, fin, NB⟩ := H
  have c0 : w'.cell? ⟨bm, 0, none⟩ = some (.int .i64 o') := (blk_cell NM 0).trans rfl
  have c1' : w'.cell? ⟨bm, 1, none⟩ = some (.int .i64 lo1) := (blk_cell NM 1).trans rfl
  have c2 : w'.cell? ⟨bm, 2, none⟩ = some (.slice A1 l1.length c1) := (blk_cell NM 2).trans rfl
  have f0 := blk_frozen NM 0
  have f1 := blk_frozen NM 1
  have f2 := blk_frozen NM 2
  have HD := Lib.hid (fun n => (⟨N0, NM, lbm, Kd.F_drewN HF1 n, hc1, fin, pw_below_drewN NB n⟩ : NoteJ w o o' lo l0 bm lo1 l1 A1 c1 (w'.drewN n)))
  clear N0 NM HF1 hc1 NB
  cases l1 with
  | nil =>
   have hres : lowP lo l0 = (lo1, []) := by rw [← fin]; rfl
   have HFIN := Lib.hid hres
   clear hres fin
   go_wp2_with fail
   go_quiet (fail)
   go_wp2_with fail
   generalize hdn : w'.drewN _ = wd
   have HJ : NoteJ w o o' lo l0 bm lo1 [] A1 c1 wd := hdn ▸ HD.out _
   obtain ⟨N0, NM, lbm, HF1, hc1, fin, NB⟩ := HJ
   clear hdn HD
   refine (HCM.out _ NB).mono ?_
   rintro e w1 ⟨v10, rfl, hown, hb⟩
   obtain ⟨A10, c10, rfl, hr10, hg10⟩ := own_row hown
   have B1 := Lib.hid (below_step NB hb)
   have M0 := Lib.hid (blk_below N0 hb)
   have MM := Lib.hid (blk_below NM hb)
   have HB1 := Lib.hid hb
   have hws := NB.size
   have HF2 := Lib.hid (Kd.F_mono (Kd.F_below (Kd.F_bound HF1) hb) (ok' := fun k => w.heap.size ≤ k ∧ k < wd.heap.size) (fun k hk => ⟨by omega, hk.2⟩))
   have HO := Lib.hid hown
   have HR10 := Lib.hid hr10
   clear c0 c1' c2 f0 f1 f2 N0 NM NB hb HF1 HR HF HCM HOF HFR HIX hown hr10
   have c0 : w1.cell? ⟨bm, 0, none⟩ = some (.int .i64 o') := (blk_cell MM.out 0).trans rfl
   have c1' : w1.cell? ⟨bm, 1, none⟩ = some (.int .i64 lo1) := (blk_cell MM.out 1).trans rfl
   have c2 : w1.cell? ⟨bm, 2, none⟩ = some (.slice A1 0 c1) := (blk_cell MM.out 2).trans rfl
   by_cases hat : 0 ≤ at0
   ·
    obtain ⟨k, rfl, hkl⟩ := HAT.out hat
    obtain ⟨g, rfl, hgb, hgl⟩ := hg10 (by omega)
    have hw'b := B1.out.size
    have hq := HO.out
    have hcl := cellsM_length rs
    have x0 : w1.cell? ⟨g, k * 3, none⟩ = (cellsM rs)[k * 3]? := hq.cellAt _ (by omega)
    have x1 : w1.cell? ⟨g, k * 3 + 1, none⟩ = (cellsM rs)[k * 3 + 1]? := hq.cellAt _ (by omega)
    have x2 : w1.cell? ⟨g, k * 3 + 2, none⟩ = (cellsM rs)[k * 3 + 2]? := hq.cellAt _ (by omega)
    obtain ⟨xm, hxm⟩ : ∃ xm, rs[k]? = some xm := ⟨rs[k], List.getElem?_eq_getElem hkl⟩
    obtain ⟨y0, y1, y2⟩ := cellsM_at rs k xm hxm
    rw [y0] at x0
    rw [y1] at x1
    rw [y2] at x2
    have g0 := hq.frozenAt (k * 3)
    have g1 := hq.frozenAt (k * 3 + 1)
    have g2 := hq.frozenAt (k * 3 + 2)
    have s1 := hq.stored (k * 3) (.int .i64 o')
    have s2 := s1.1.stored (k * 3 + 1) (.int .i64 lo1)
    have s3 := s2.1.stored (k * 3 + 2) (.slice A1 0 c1)
    have e := cellsM_set rs k (o', lo1, A1, 0, c1)
    have RES := Lib.hid (s3.1)
    rw [e] at RES
    have hgw : w.heap.size ≤ g := by have := HB1.out.size; have := (Array.getElem?_eq_some_iff.1 MM.out).1; omega
    have HGW : w.heap.size ≤ w1.heap.size := by omega
    have RB := Lib.hid (((B1.out.grown s1.2 HGW (fun k hk => by cases hk; exact hgw)).grown s2.2 (by simpa using HGW) (fun k hk => by cases hk; exact hgw)).grown s3.2 (by simpa using HGW) (fun k hk => by cases hk; exact hgw))
    clear hq hcl y0 y1 y2 s1 s2 s3 e hxm
    have p147 := eq_true (show 0 ≤ (k : Int) by omega)
    have q147 := eq_true (show (k : Int) < (rs.length : Int) by omega)
    have tn : ((k : Int)).toNat = k := Int.toNat_natCast k
    have FF := Lib.hid (Kd.F_far (Kd.F_far (Kd.F_far HF2.out (p := ⟨g, k * 3, none⟩) (fun j hj => by show j ≠ g; omega) (.int .i64 o')) (p := ⟨g, k * 3 + 1, none⟩) (fun j hj => by show j ≠ g; omega) (.int .i64 lo1)) (p := ⟨g, k * 3 + 2, none⟩) (fun j hj => by show j ≠ g; omega) (.slice A1 0 c1))
    go_wp2_with fail
    simp only [Exit.jump]
    go_ret
    rw [HFIN.out]
    exact ⟨_, A1, c1, rs.length, rfl, by rw [if_pos hat, Int.toNat_natCast]; exact RES.out.mono hws, Kd.F_mono FF.out (fun j hj => hj.1), hc1, RB.out⟩
   ·
    have hneg : at0 < 0 := by omega
    have HI2 := Lib.hid (index_mark A10 c10 rs 47 (.pointer (some ⟨w.heap.size, 0, none⟩)) (fun x => decide (x.1 > o)) w1 HR10.out (by have := HL.out; omega) (enters_s Try.func47 rfl rfl) (fun W x hx hb => note2_c x o w.heap.size W ((blk_cell (blk_below M0.out hb) 0).trans rfl)))
    obtain ⟨hp1, hp2, hp3⟩ := place_spec (fun x : MR => decide (x.1 > o)) rs
    obtain ⟨pl, hpl⟩ : ∃ pl, pl = place (fun x : MR => decide (x.1 > o)) rs := ⟨_, rfl⟩
    rw [← hpl] at hp1 hp2 hp3
    have HPL := Lib.hid hpl
    clear hpl
    generalize ixL (fun x : MR => decide (x.1 > o)) rs 0 = z at HI2 hp1 hp2
    go_wp2_with fail
    refine HI2.out.mono ?_
    rintro e w2 ⟨rfl, hb2⟩
    have MM2 := blk_below MM.out hb2
    replace c0 : w2.cell? ⟨bm, 0, none⟩ = some (.int .i64 o') := (blk_cell MM2 0).trans rfl
    replace c1' : w2.cell? ⟨bm, 1, none⟩ = some (.int .i64 lo1) := (blk_cell MM2 1).trans rfl
    replace c2 : w2.cell? ⟨bm, 2, none⟩ = some (.slice A1 0 c1) := (blk_cell MM2 2).trans rfl
    clear MM2
    by_cases hz : 0 ≤ z
    ·
     have hz1 := hp1 hz
     subst hz1
     have hz' : ((pl : Nat) : Int) < 0 ↔ False := ⟨fun h => by omega, fun h => h.elim⟩
     clear hp1 hp2 hz
     go_wp2_with fail
     refine (insert_mark wd.heap.size (.slice A10 rs.length c10) rs.length pl (cellsM rs) [.int .i64 o', .int .i64 lo1, .slice A1 0 c1] w2.heap.size _ (w2.alloc (.cells #[.int .i64 o', .int .i64 lo1, .slice A1 0 c1] 54)) ((own_below HO.out hb2).alloc _) (by first | exact hp3 | omega) rfl (blk_new _ _) (fun h => by have := (HO.out.lt _ h.symm).2; have := hb2.size; omega) (by have := HB1.out.size; have := hb2.size; simp; omega) (by have := HL.out; omega) (by simp [Value.oneCell']) (cellsM_one rs)).mono ?_
     rintro e w3 ⟨v3, rfl, hown3, hgr3⟩
     have hob : ∀ k, (Value.slice A10 rs.length c10).ownBlock = some k → wd.heap.size ≤ k := fun k hk => (HO.out.lt k hk).1
     have FF := Lib.hid (Kd.F_grown (Kd.F_alloc (Kd.F_below HF2.out hb2) (.cells #[.int .i64 o', .int .i64 lo1, .slice A1 0 c1] 54)) hgr3 (fun j hj h => by have := hob j h.symm; omega))
     have RB := Lib.hid (((below_step B1.out hb2).alloc (below_step B1.out hb2).size (.cells #[.int .i64 o', .int .i64 lo1, .slice A1 0 c1] 54)).grown hgr3 (by have := (below_step B1.out hb2).size; simp; omega) (fun k hk => by have := hob k hk; omega))
     have RES := Lib.hid (hown3.mono hws)
     have e3 : (cellsM rs).take (pl * 3) ++ ([.int .i64 o', .int .i64 lo1, .slice A1 0 c1] ++ (cellsM rs).drop (pl * 3)) = cellsM (rs.take pl ++ ((o', lo1, A1, 0, c1) :: rs.drop pl)) := by
      rw [cellsM_take, cellsM_drop, ← cellsM_append]
      rfl
     rw [e3] at RES
     clear e3 hown3 hgr3 hob hb2
     go_wp2_with fail
     simp only [Exit.jump]
     go_ret
     rw [HFIN.out]
     exact ⟨v3, A1, c1, rs.length + 1, rfl, by rw [if_neg (by omega)]; unfold insAt; first | (rw [← HPL.out]; exact RES.out) | (rw [HPL.out]; exact RES.out), Kd.F_mono FF.out (fun j hj => hj.1), hc1, RB.out⟩
    ·
     have hp2' := hp2 (by omega)
     subst hp2'
     have hz' : decide (z < 0) = true := decide_eq_true (by omega)
     clear hp1 hp2
     go_wp2_with fail
     refine (insert_mark wd.heap.size (.slice A10 rs.length c10) rs.length rs.length (cellsM rs) [.int .i64 o', .int .i64 lo1, .slice A1 0 c1] w2.heap.size _ (w2.alloc (.cells #[.int .i64 o', .int .i64 lo1, .slice A1 0 c1] 54)) ((own_below HO.out hb2).alloc _) (by first | exact hp3 | omega) rfl (blk_new _ _) (fun h => by have := (HO.out.lt _ h.symm).2; have := hb2.size; omega) (by have := HB1.out.size; have := hb2.size; simp; omega) (by have := HL.out; omega) (by simp [Value.oneCell']) (cellsM_one rs)).mono ?_
     rintro e w3 ⟨v3, rfl, hown3, hgr3⟩
     have hob : ∀ k, (Value.slice A10 rs.length c10).ownBlock = some k → wd.heap.size ≤ k := fun k hk => (HO.out.lt k hk).1
     have FF := Lib.hid (Kd.F_grown (Kd.F_alloc (Kd.F_below HF2.out hb2) (.cells #[.int .i64 o', .int .i64 lo1, .slice A1 0 c1] 54)) hgr3 (fun j hj h => by have := hob j h.symm; omega))
     have RB := Lib.hid (((below_step B1.out hb2).alloc (below_step B1.out hb2).size (.cells #[.int .i64 o', .int .i64 lo1, .slice A1 0 c1] 54)).grown hgr3 (by have := (below_step B1.out hb2).size; simp; omega) (fun k hk => by have := hob k hk; omega))
     have RES := Lib.hid (hown3.mono hws)
     have e3 : (cellsM rs).take (rs.length * 3) ++ ([.int .i64 o', .int .i64 lo1, .slice A1 0 c1] ++ (cellsM rs).drop (rs.length * 3)) = cellsM (rs.take rs.length ++ ((o', lo1, A1, 0, c1) :: rs.drop rs.length)) := by
      rw [cellsM_take, cellsM_drop, ← cellsM_append]
      rfl
     rw [e3] at RES
     clear e3 hown3 hgr3 hob hb2
     go_wp2_with fail
     simp only [Exit.jump]
     go_ret
     rw [HFIN.out]
     exact ⟨v3, A1, c1, rs.length + 1, rfl, by rw [if_neg (by omega)]; unfold insAt; first | (rw [← HPL.out]; exact RES.out) | (rw [HPL.out]; exact RES.out), Kd.F_mono FF.out (fun j hj => hj.1), hc1, RB.out⟩
  | cons x r =>
   obtain ⟨ad, eA, hx⟩ := row_int (HD.out 0).hF 0 x rfl
   subst eA
   replace hx : w'.cell? (ad.add 0) = some (.int .i64 x) := hx
   have hx' : w'.cell? ad = some (.int .i64 x) := by simpa [Addr.add] using hx
   have hpos := eq_true (show 0 < (r.length : Int) + 1 by omega)
   have hpos' : decide (0 < (r.length : Int) + 1) = true := decide_eq_true (by omega)
   by_cases hq : wrap64 (x - 1) = lo1
   ·
    have heq : (wrap64 (x - 1) == lo1) = true := by rw [hq]; exact beq_self_eq_true _
    go_wp2_with fail
    go_quiet (fail)
    go_wp2_with fail
    ·
     have hc11 : c1 = 1 := by assumption
     subst hc11
     generalize hdn : w'.drewN _ = wd
     have HJ : NoteJ w o o' lo l0 bm lo1 (x :: r) (some ad) 1 wd := hdn ▸ HD.out _
     clear hdn HD
     obtain ⟨N0, NM, lbm, HF1, hc1, fin, NB⟩ := HJ
     have HCUT := Kd.F_cut (m := 1) HF1 (by simp) hc1
     rw [if_pos rfl] at HCUT
     have HFF := Kd.F_far (Kd.F_far HCUT (p := ⟨bm, 1, none⟩) (fun k hk => by show k ≠ bm; omega) (.int .i64 (wrap64 (lo1 + 1)))) (p := ⟨bm, 2, none⟩) (fun k hk => by show k ≠ bm; omega) (.slice (some ad) r.length 0)
     have NM2 := blk_set (blk_set NM 1 (.int .i64 (wrap64 (lo1 + 1)))) 2 (.slice (some ad) r.length 0)
     have z2 := (blk_cell NM2 2).trans (b := some (Value.slice (some ad) r.length 0)) rfl
     have fin2 : lowP (wrap64 (lo1 + 1)) r = lowP lo l0 := by rw [← fin, lowP, if_pos hq]
     go_step3
     refine ⟨rfl, NoteA.mk bm (wrap64 (lo1 + 1)) r _ _ rfl ⟨blk_far (blk_far N0 (by simp; omega) _) (by simp; omega) _, NM2.trans rfl, lbm, HFF, by simp at hc1 ⊢; omega, fin2, below_set (below_set NB (by omega)) (by omega)⟩, ?_⟩
     simp only [muN, Array.getD_eq_getD_getElem?, List.getElem?_toArray, List.getElem?_cons_succ, List.getElem?_cons_zero, Option.getD_some]
     rw [z2, c2]
     show r.length < r.length + 1
     omega
    ·
     have hc11 : ¬ c1 = 1 := by assumption
     generalize hdn : w'.drewN _ = wd
     have HJ : NoteJ w o o' lo l0 bm lo1 (x :: r) (some ad) c1 wd := hdn ▸ HD.out _
     clear hdn HD
     obtain ⟨N0, NM, lbm, HF1, hc1, fin, NB⟩ := HJ
     have HCUT := Kd.F_cut (m := 1) HF1 (by simp) hc1
     rw [if_neg hc11] at HCUT
     have e4 : ((some ad).map (·.add (1 * (Kd.int .i64).sz)) : Option Addr) = some ⟨ad.block, ad.off + 1, none⟩ := by
      show some (ad.add 1) = _
      unfold Addr.add
      rfl
     rw [e4] at HCUT
     have HFF := Kd.F_far (Kd.F_far HCUT (p := ⟨bm, 1, none⟩) (fun k hk => by show k ≠ bm; omega) (.int .i64 (wrap64 (lo1 + 1)))) (p := ⟨bm, 2, none⟩) (fun k hk => by show k ≠ bm; omega) (.slice (some ⟨ad.block, ad.off + 1, none⟩) r.length (c1 - 1))
     have NM2 := blk_set (blk_set NM 1 (.int .i64 (wrap64 (lo1 + 1)))) 2 (.slice (some ⟨ad.block, ad.off + 1, none⟩) r.length (c1 - 1))
     have z2 := (blk_cell NM2 2).trans (b := some (Value.slice (some ⟨ad.block, ad.off + 1, none⟩) r.length (c1 - 1))) rfl
     have fin2 : lowP (wrap64 (lo1 + 1)) r = lowP lo l0 := by rw [← fin, lowP, if_pos hq]
     go_step3
     refine ⟨rfl, NoteA.mk bm (wrap64 (lo1 + 1)) r _ _ rfl ⟨blk_far (blk_far N0 (by simp; omega) _) (by simp; omega) _, NM2.trans rfl, lbm, HFF, by simp at hc1 ⊢; omega, fin2, below_set (below_set NB (by omega)) (by omega)⟩, ?_⟩
     simp only [muN, Array.getD_eq_getD_getElem?, List.getElem?_toArray, List.getElem?_cons_succ, List.getElem?_cons_zero, Option.getD_some]
     rw [z2, c2]
     show r.length < r.length + 1
     omega
   ·
    have heq : (wrap64 (x - 1) == lo1) = false := by rw [beq_eq_false_iff_ne]; exact hq
    have hres : lowP lo l0 = (lo1, x :: r) := by rw [← fin, lowP, if_neg hq]
    have HFIN := Lib.hid hres
    clear hres fin
    generalize hyy : wrap64 (x - 1) = yy at heq
    clear hq
    go_wp2_with fail
    go_quiet (fail)
    go_wp2_with fail
    generalize hdn : w'.drewN _ = wd
    have HJ : NoteJ w o o' lo l0 bm lo1 (x :: r) (some ad) c1 wd := hdn ▸ HD.out _
    obtain ⟨N0, NM, lbm, HF1, hc1, fin, NB⟩ := HJ
    clear hdn HD
    refine (HCM.out _ NB).mono ?_
    rintro e w1 ⟨v10, rfl, hown, hb⟩
    obtain ⟨A10, c10, rfl, hr10, hg10⟩ := own_row hown
    have B1 := Lib.hid (below_step NB hb)
    have M0 := Lib.hid (blk_below N0 hb)
    have MM := Lib.hid (blk_below NM hb)
    have HB1 := Lib.hid hb
    have hws := NB.size
    have HF2 := Lib.hid (Kd.F_mono (Kd.F_below (Kd.F_bound HF1) hb) (ok' := fun k => w.heap.size ≤ k ∧ k < wd.heap.size) (fun k hk => ⟨by omega, hk.2⟩))
    have HO := Lib.hid hown
    have HR10 := Lib.hid hr10
    clear c0 c1' c2 f0 f1 f2 N0 NM NB hb HF1 HR HF HCM HOF HFR HIX hown hr10
    have c0 : w1.cell? ⟨bm, 0, none⟩ = some (.int .i64 o') := (blk_cell MM.out 0).trans rfl
    have c1' : w1.cell? ⟨bm, 1, none⟩ = some (.int .i64 lo1) := (blk_cell MM.out 1).trans rfl
    have c2 : w1.cell? ⟨bm, 2, none⟩ = some (.slice (some ad) (r.length + 1) c1) := (blk_cell MM.out 2).trans rfl
    by_cases hat : 0 ≤ at0
    ·
     obtain ⟨k, rfl, hkl⟩ := HAT.out hat
     obtain ⟨g, rfl, hgb, hgl⟩ := hg10 (by omega)
     have hw'b := B1.out.size
     have hq := HO.out
     have hcl := cellsM_length rs
     have x0 : w1.cell? ⟨g, k * 3, none⟩ = (cellsM rs)[k * 3]? := hq.cellAt _ (by omega)
     have x1 : w1.cell? ⟨g, k * 3 + 1, none⟩ = (cellsM rs)[k * 3 + 1]? := hq.cellAt _ (by omega)
     have x2 : w1.cell? ⟨g, k * 3 + 2, none⟩ = (cellsM rs)[k * 3 + 2]? := hq.cellAt _ (by omega)
     obtain ⟨xm, hxm⟩ : ∃ xm, rs[k]? = some xm := ⟨rs[k], List.getElem?_eq_getElem hkl⟩
     obtain ⟨y0, y1, y2⟩ := cellsM_at rs k xm hxm
     rw [y0] at x0
     rw [y1] at x1
     rw [y2] at x2
     have g0 := hq.frozenAt (k * 3)
     have g1 := hq.frozenAt (k * 3 + 1)
     have g2 := hq.frozenAt (k * 3 + 2)
     have s1 := hq.stored (k * 3) (.int .i64 o')
     have s2 := s1.1.stored (k * 3 + 1) (.int .i64 lo1)
     have s3 := s2.1.stored (k * 3 + 2) (.slice (some ad) (r.length + 1) c1)
     have e := cellsM_set rs k (o', lo1, some ad, r.length + 1, c1)
     have RES := Lib.hid (s3.1)
     rw [e] at RES
     have hgw : w.heap.size ≤ g := by have := HB1.out.size; have := (Array.getElem?_eq_some_iff.1 MM.out).1; omega
     have HGW : w.heap.size ≤ w1.heap.size := by omega
     have RB := Lib.hid (((B1.out.grown s1.2 HGW (fun k hk => by cases hk; exact hgw)).grown s2.2 (by simpa using HGW) (fun k hk => by cases hk; exact hgw)).grown s3.2 (by simpa using HGW) (fun k hk => by cases hk; exact hgw))
     clear hq hcl y0 y1 y2 s1 s2 s3 e hxm
     have p147 := eq_true (show 0 ≤ (k : Int) by omega)
     have q147 := eq_true (show (k : Int) < (rs.length : Int) by omega)
     have tn : ((k : Int)).toNat = k := Int.toNat_natCast k
     have FF := Lib.hid (Kd.F_far (Kd.F_far (Kd.F_far HF2.out (p := ⟨g, k * 3, none⟩) (fun j hj => by show j ≠ g; omega) (.int .i64 o')) (p := ⟨g, k * 3 + 1, none⟩) (fun j hj => by show j ≠ g; omega) (.int .i64 lo1)) (p := ⟨g, k * 3 + 2, none⟩) (fun j hj => by show j ≠ g; omega) (.slice (some ad) (r.length + 1) c1))
     go_wp2_with fail
     simp only [Exit.jump]
     go_ret
     rw [HFIN.out]
     exact ⟨_, some ad, c1, rs.length, rfl, by rw [if_pos hat, Int.toNat_natCast]; exact RES.out.mono hws, Kd.F_mono FF.out (fun j hj => hj.1), hc1, RB.out⟩
    ·
     have hneg : at0 < 0 := by omega
     have HI2 := Lib.hid (index_mark A10 c10 rs 47 (.pointer (some ⟨w.heap.size, 0, none⟩)) (fun x => decide (x.1 > o)) w1 HR10.out (by have := HL.out; omega) (enters_s Try.func47 rfl rfl) (fun W x hx hb => note2_c x o w.heap.size W ((blk_cell (blk_below M0.out hb) 0).trans rfl)))
     obtain ⟨hp1, hp2, hp3⟩ := place_spec (fun x : MR => decide (x.1 > o)) rs
     obtain ⟨pl, hpl⟩ : ∃ pl, pl = place (fun x : MR => decide (x.1 > o)) rs := ⟨_, rfl⟩
     rw [← hpl] at hp1 hp2 hp3
     have HPL := Lib.hid hpl
     clear hpl
     generalize ixL (fun x : MR => decide (x.1 > o)) rs 0 = z at HI2 hp1 hp2
     go_wp2_with fail
     refine HI2.out.mono ?_
     rintro e w2 ⟨rfl, hb2⟩
     have MM2 := blk_below MM.out hb2
     replace c0 : w2.cell? ⟨bm, 0, none⟩ = some (.int .i64 o') := (blk_cell MM2 0).trans rfl
     replace c1' : w2.cell? ⟨bm, 1, none⟩ = some (.int .i64 lo1) := (blk_cell MM2 1).trans rfl
     replace c2 : w2.cell? ⟨bm, 2, none⟩ = some (.slice (some ad) (r.length + 1) c1) := (blk_cell MM2 2).trans rfl
     clear MM2
     by_cases hz : 0 ≤ z
     ·
      have hz1 := hp1 hz
      subst hz1
      have hz' : ((pl : Nat) : Int) < 0 ↔ False := ⟨fun h => by omega, fun h => h.elim⟩
      clear hp1 hp2 hz
      go_wp2_with fail
      refine (insert_mark wd.heap.size (.slice A10 rs.length c10) rs.length pl (cellsM rs) [.int .i64 o', .int .i64 lo1, .slice (some ad) (r.length + 1) c1] w2.heap.size _ (w2.alloc (.cells #[.int .i64 o', .int .i64 lo1, .slice (some ad) (r.length + 1) c1] 54)) ((own_below HO.out hb2).alloc _) (by first | exact hp3 | omega) rfl (blk_new _ _) (fun h => by have := (HO.out.lt _ h.symm).2; have := hb2.size; omega) (by have := HB1.out.size; have := hb2.size; simp; omega) (by have := HL.out; omega) (by simp [Value.oneCell']) (cellsM_one rs)).mono ?_
      rintro e w3 ⟨v3, rfl, hown3, hgr3⟩
      have hob : ∀ k, (Value.slice A10 rs.length c10).ownBlock = some k → wd.heap.size ≤ k := fun k hk => (HO.out.lt k hk).1
      have FF := Lib.hid (Kd.F_grown (Kd.F_alloc (Kd.F_below HF2.out hb2) (.cells #[.int .i64 o', .int .i64 lo1, .slice (some ad) (r.length + 1) c1] 54)) hgr3 (fun j hj h => by have := hob j h.symm; omega))
      have RB := Lib.hid (((below_step B1.out hb2).alloc (below_step B1.out hb2).size (.cells #[.int .i64 o', .int .i64 lo1, .slice (some ad) (r.length + 1) c1] 54)).grown hgr3 (by have := (below_step B1.out hb2).size; simp; omega) (fun k hk => by have := hob k hk; omega))
      have RES := Lib.hid (hown3.mono hws)
      have e3 : (cellsM rs).take (pl * 3) ++ ([.int .i64 o', .int .i64 lo1, .slice (some ad) (r.length + 1) c1] ++ (cellsM rs).drop (pl * 3)) = cellsM (rs.take pl ++ ((o', lo1, some ad, r.length + 1, c1) :: rs.drop pl)) := by
       rw [cellsM_take, cellsM_drop, ← cellsM_append]
       rfl
      rw [e3] at RES
      clear e3 hown3 hgr3 hob hb2
      go_wp2_with fail
      simp only [Exit.jump]
      go_ret
      rw [HFIN.out]
      exact ⟨v3, some ad, c1, rs.length + 1, rfl, by rw [if_neg (by omega)]; unfold insAt; first | (rw [← HPL.out]; exact RES.out) | (rw [HPL.out]; exact RES.out), Kd.F_mono FF.out (fun j hj => hj.1), hc1, RB.out⟩
     ·
      have hp2' := hp2 (by omega)
      subst hp2'
      have hz' : decide (z < 0) = true := decide_eq_true (by omega)
      clear hp1 hp2
      go_wp2_with fail
      refine (insert_mark wd.heap.size (.slice A10 rs.length c10) rs.length rs.length (cellsM rs) [.int .i64 o', .int .i64 lo1, .slice (some ad) (r.length + 1) c1] w2.heap.size _ (w2.alloc (.cells #[.int .i64 o', .int .i64 lo1, .slice (some ad) (r.length + 1) c1] 54)) ((own_below HO.out hb2).alloc _) (by first | exact hp3 | omega) rfl (blk_new _ _) (fun h => by have := (HO.out.lt _ h.symm).2; have := hb2.size; omega) (by have := HB1.out.size; have := hb2.size; simp; omega) (by have := HL.out; omega) (by simp [Value.oneCell']) (cellsM_one rs)).mono ?_
      rintro e w3 ⟨v3, rfl, hown3, hgr3⟩
      have hob : ∀ k, (Value.slice A10 rs.length c10).ownBlock = some k → wd.heap.size ≤ k := fun k hk => (HO.out.lt k hk).1
      have FF := Lib.hid (Kd.F_grown (Kd.F_alloc (Kd.F_below HF2.out hb2) (.cells #[.int .i64 o', .int .i64 lo1, .slice (some ad) (r.length + 1) c1] 54)) hgr3 (fun j hj h => by have := hob j h.symm; omega))
      have RB := Lib.hid (((below_step B1.out hb2).alloc (below_step B1.out hb2).size (.cells #[.int .i64 o', .int .i64 lo1, .slice (some ad) (r.length + 1) c1] 54)).grown hgr3 (by have := (below_step B1.out hb2).size; simp; omega) (fun k hk => by have := hob k hk; omega))
      have RES := Lib.hid (hown3.mono hws)
      have e3 : (cellsM rs).take (rs.length * 3) ++ ([.int .i64 o', .int .i64 lo1, .slice (some ad) (r.length + 1) c1] ++ (cellsM rs).drop (rs.length * 3)) = cellsM (rs.take rs.length ++ ((o', lo1, some ad, r.length + 1, c1) :: rs.drop rs.length)) := by
       rw [cellsM_take, cellsM_drop, ← cellsM_append]
       rfl
      rw [e3] at RES
      clear e3 hown3 hgr3 hob hb2
      go_wp2_with fail
      simp only [Exit.jump]
      go_ret
      rw [HFIN.out]
      exact ⟨v3, some ad, c1, rs.length + 1, rfl, by rw [if_neg (by omega)]; unfold insAt; first | (rw [← HPL.out]; exact RES.out) | (rw [HPL.out]; exact RES.out), Kd.F_mono FF.out (fun j hj => hj.1), hc1, RB.out⟩
end Go.Proofs.Ytcbfnmabckjijaa.Si
