import Derived.Test.YtcbfnmabckjijaaVOrderTurnsNo
import Derived.Test.YtcbfnmabckjijaaVOrderTurnsKt
import Derived.Test.YtcbfnmabckjijaaVOrderTurnsWN
/- Trimmed by a program. By an AI agent. -/
namespace Go.Proofs.Ytcbfnmabckjijaa.Si
open Go.RowKit Go.Lib Go.Proofs.YtcbfnmabckjijaaW.PrintWords Go.Proofs.YtcbfnmabckjijaaW.PrintLast Go.Proofs.YtcbfnmabckjijaaW.PrintMore
set_option linter.unusedVariables false
set_option linter.unusedSimpArgs false
abbrev MS := Int × Int × List Int
abbrev kMk : Kd MS := Kd.pair (Kd.int .i64) (Kd.pair (Kd.int .i64) (Kd.slice 3 (Kd.int .i64)))
theorem kMk_open {w : World} {x : MS} {cs : List Value} (h : kMk.K w x cs) : ∃ A2 c2, cs = [.int .i64 x.1, .int .i64 x.2.1, .slice A2 x.2.2.length c2] ∧ x.2.2.length ≤ c2 ∧ (Kd.int .i64).C w A2 x.2.2.length x.2.2 := by
  obtain ⟨_, _, rfl, rfl, ⟨_, _, rfl, rfl, ⟨A2, c2, rfl, l2, g2⟩⟩⟩ := h
  exact ⟨A2, c2, rfl, l2, g2⟩
theorem kMk_mk (w : World) (x : MS) {A2 : Option Addr} {c2 : Nat} (l2 : x.2.2.length ≤ c2) (g2 : (Kd.int .i64).C w A2 x.2.2.length x.2.2) : kMk.K w x [.int .i64 x.1, .int .i64 x.2.1, .slice A2 x.2.2.length c2] := ⟨[.int .i64 x.1], [.int .i64 x.2.1, .slice A2 x.2.2.length c2], rfl, rfl, ⟨[.int .i64 x.2.1], [.slice A2 x.2.2.length c2], rfl, rfl, ⟨A2, c2, rfl, l2, g2⟩⟩⟩
theorem kMk_openF {W : World} {ok : Nat → Prop} {x : MS} {cs : List Value} (h : Kd.FK kMk W ok x cs) : ∃ A2 c2, cs = [.int .i64 x.1, .int .i64 x.2.1, .slice A2 x.2.2.length c2] ∧ x.2.2.length ≤ c2 ∧ Kd.F (Kd.int .i64) W ok A2 x.2.2.length x.2.2 := by
  obtain ⟨A2, c2, rfl, l2, _⟩ := kMk_open (Kd.FK_now h)
  exact ⟨A2, c2, rfl, l2, (fun W' hW => by obtain ⟨A2_, c2_, he, l2_, g2_⟩ := kMk_open (h W' hW); injection (Option.some.inj (show some (Value.slice A2 x.2.2.length c2) = some (Value.slice A2_ x.2.2.length c2_) from congrArg (fun l => l[2]?) he)) with ha_ _ _; rw [ha_]; exact g2_)⟩
def RelM (W : World) (ok : Nat → Prop) (r : MR) (m : MS) : Prop := r.1 = m.1 ∧ r.2.1 = m.2.1 ∧ r.2.2.2.1 = m.2.2.length ∧ m.2.2.length ≤ r.2.2.2.2 ∧ Kd.F (Kd.int .i64) W ok r.2.2.1 m.2.2.length m.2.2
def Rels (W : World) (ok : Nat → Prop) : List MR → List MS → Prop
  | [], [] => True
  | r :: rs, m :: ms => RelM W ok r m ∧ Rels W ok rs ms
  | _, _ => False
theorem Rels.len {W : World} {ok : Nat → Prop} : ∀ {rs : List MR} {ms : List MS}, Rels W ok rs ms → rs.length = ms.length
  | [], [], _ => rfl
  | r :: rs, m :: ms, h => by simp [Rels.len h.2]
  | [], m :: ms, h => h.elim
  | r :: rs, [], h => h.elim
theorem Rels.imp {W W' : World} {ok ok' : Nat → Prop} (hi : ∀ A n l, Kd.F (Kd.int .i64) W ok A n l → Kd.F (Kd.int .i64) W' ok' A n l) : ∀ {rs : List MR} {ms : List MS}, Rels W ok rs ms → Rels W' ok' rs ms
  | [], [], _ => trivial
  | r :: rs, m :: ms, h => ⟨⟨h.1.1, h.1.2.1, h.1.2.2.1, h.1.2.2.2.1, hi _ _ _ h.1.2.2.2.2⟩, Rels.imp hi h.2⟩
  | [], m :: ms, h => h.elim
  | r :: rs, [], h => h.elim
theorem Rels.get {W : World} {ok : Nat → Prop} : ∀ {rs : List MR} {ms : List MS} (_ : Rels W ok rs ms) (i : Nat) (r : MR) (m : MS), rs[i]? = some r → ms[i]? = some m → RelM W ok r m
  | [], [], _, i, r, m, h1, _ => by simp at h1
  | r :: rs, m :: ms, h, 0, r', m', h1, h2 => by
    have e1 : r = r' := by simpa using h1
    have e2 : m = m' := by simpa using h2
    subst e1; subst e2
    exact h.1
  | r :: rs, m :: ms, h, i + 1, r', m', h1, h2 => Rels.get h.2 i r' m' (by simpa using h1) (by simpa using h2)
  | [], m :: ms, h, _, _, _, _, _ => h.elim
  | r :: rs, [], h, _, _, _, _, _ => h.elim
theorem Rels.set {W : World} {ok : Nat → Prop} {r' : MR} {m' : MS} (hr : RelM W ok r' m') : ∀ {rs : List MR} {ms : List MS} (_ : Rels W ok rs ms) (i : Nat), Rels W ok (rs.set i r') (ms.set i m')
  | [], [], _, i => by simp [Rels]
  | r :: rs, m :: ms, h, 0 => ⟨hr, h.2⟩
  | r :: rs, m :: ms, h, i + 1 => ⟨h.1, Rels.set hr h.2 i⟩
  | [], m :: ms, h, _ => h.elim
  | r :: rs, [], h, _ => h.elim
theorem Rels.put {W : World} {ok : Nat → Prop} {r' : MR} {m' : MS} (hr : RelM W ok r' m') : ∀ {rs : List MR} {ms : List MS} (_ : Rels W ok rs ms) (i : Nat), Rels W ok (rs.take i ++ (r' :: rs.drop i)) (ms.take i ++ (m' :: ms.drop i))
  | [], [], _, i => by simp [Rels]; exact hr
  | r :: rs, m :: ms, h, 0 => ⟨hr, h⟩
  | r :: rs, m :: ms, h, i + 1 => ⟨h.1, Rels.put hr h.2 i⟩
  | [], m :: ms, h, _ => h.elim
  | r :: rs, [], h, _ => h.elim
theorem Rels.ix {W : World} {ok : Nat → Prop} (p : Int → Bool) : ∀ {rs : List MR} {ms : List MS} (_ : Rels W ok rs ms) (i : Nat), ixL (fun r : MR => p r.1) rs i = ixL (fun m : MS => p m.1) ms i
  | [], [], _, i => rfl
  | r :: rs, m :: ms, h, i => by
    have e := h.1.1
    simp only [ixL, e, Rels.ix p h.2 (i + 1)]
  | [], m :: ms, h, _ => h.elim
  | r :: rs, [], h, _ => h.elim
theorem rels_of {W : World} {ok : Nat → Prop} {ad : Addr} : ∀ (ms : List MS) (k : Nat), (∀ j x, ms[j]? = some x → ∃ r : MR, RelM W ok r x ∧ W.cell? (ad.add ((k + j) * 3)) = some (.int .i64 r.1) ∧ W.cell? (ad.add ((k + j) * 3 + 1)) = some (.int .i64 r.2.1) ∧ W.cell? (ad.add ((k + j) * 3 + 2)) = some (.slice r.2.2.1 r.2.2.2.1 r.2.2.2.2)) →
    ∃ rs, Rels W ok rs ms ∧ ∀ (j : Nat) (r : MR), rs[j]? = some r → W.cell? (ad.add ((k + j) * 3)) = some (.int .i64 r.1) ∧ W.cell? (ad.add ((k + j) * 3 + 1)) = some (.int .i64 r.2.1) ∧ W.cell? (ad.add ((k + j) * 3 + 2)) = some (.slice r.2.2.1 r.2.2.2.1 r.2.2.2.2)
  | [], k, _ => ⟨[], trivial, fun j r h => by simp at h⟩
  | m :: ms, k, h => by
    obtain ⟨r, hr, hc⟩ := h 0 m rfl
    obtain ⟨rs, hrs, hcs⟩ := rels_of (W := W) (ok := ok) (ad := ad) ms (k + 1) (fun j x hx => by
      have := h (j + 1) x (by simpa using hx)
      rw [show k + 1 + j = k + (j + 1) by omega]; exact this)
    refine ⟨r :: rs, ⟨hr, hrs⟩, fun j r' hr' => ?_⟩
    cases j with
    | zero =>
      have e : r = r' := by simpa using hr'
      subst e; exact hc
    | succ j =>
      have := hcs j r' (by simpa using hr')
      rw [show k + 1 + j = k + (j + 1) by omega] at this; exact this
theorem F_rels {W : World} {ok : Nat → Prop} {A : Option Addr} {ms : List MS} (h : Kd.F kMk W ok A ms.length ms) : ∃ rs, Rels W ok rs ms ∧ Rowmark W A rs := by
  obtain ⟨_, _, hn⟩ := Kd.F_rows h
  by_cases h0 : 0 < ms.length
  · obtain ⟨ad, rfl, hc⟩ := hn h0
    obtain ⟨rs, hrs, hcs⟩ := rels_of (W := W) (ok := ok) (ad := ad) ms 0 (fun j x hx => by
      obtain ⟨cs, _, hK, hcell⟩ := hc j x hx
      obtain ⟨A2, c2, rfl, l2, hF⟩ := kMk_openF hK
      have e3 : kMk.sz = 3 := rfl
      rw [e3] at hcell
      rw [Nat.zero_add]
      exact ⟨(x.1, x.2.1, A2, x.2.2.length, c2), ⟨rfl, rfl, rfl, l2, hF⟩, hcell 0 _ rfl, hcell 1 _ rfl, hcell 2 _ rfl⟩)
    refine ⟨rs, hrs, fun i x hx => ⟨ad, rfl, ?_⟩⟩
    obtain ⟨q0, q1, q2⟩ := hcs i x hx
    rw [Nat.zero_add] at q0 q1 q2
    rw [add_more _ _ _ (by omega), add_more _ _ _ (by omega)]
    exact ⟨q0, q1, q2⟩
  · have e : ms = [] := List.eq_nil_of_length_eq_zero (by omega)
    subst e
    exact ⟨[], trivial, fun i x hx => by simp at hx⟩
theorem V_rels {W : World} {ok : Nat → Prop} {b base : Nat} {v : Value} {n : Nat} {rs : List MR} {ms : List MS} (h : W.ownsRow base 54 3 v n (cellsM rs)) (hr : Rels W ok rs ms) (hok : ∀ k, v.ownBlock = some k → ok k) : Kd.V kMk 54 W b ok v ms := by
  have hn : n = ms.length := by have := h.1; rw [cellsM_length, hr.len] at this; omega
  subst hn
  rcases h.2 with ⟨rfl, h0⟩ | ⟨g, cap, cur, rfl, hb, hg, hnc, hcm, hcs, htake⟩
  · have e : ms = [] := List.eq_nil_of_length_eq_zero h0
    subst e
    exact ⟨none, 0, rfl, Nat.le_refl _, Kd.F_nil _ _ _⟩
  · refine ⟨some ⟨g, 0, none⟩, cap, rfl, hnc, fun W' hW => ?_⟩
    have hlt : g < W.heap.size := (Array.getElem?_eq_some_iff.1 hg).1
    have hg' := (hW g (hok g rfl) hlt).trans hg
    refine ⟨rfl, by unfold maxLen at hcm; omega, fun _ => ⟨_, rfl, fun j x hj => ?_⟩⟩
    have hjr : j < rs.length := by rw [hr.len]; exact (List.getElem?_eq_some_iff.1 hj).1
    obtain ⟨r, hrj⟩ : ∃ r, rs[j]? = some r := ⟨_, List.getElem?_eq_getElem hjr⟩
    obtain ⟨e1, e2, e3, e4, hF⟩ := hr.get j r x hrj hj
    obtain ⟨y0, y1, y2⟩ := cellsM_at rs j r hrj
    have hcell : ∀ i u, (cellsM rs)[i]? = some u → W'.cell? ((⟨g, 0, none⟩ : Addr).add i) = some u := fun i u hu => by
      rw [← htake, List.getElem?_take] at hu
      split at hu
      · rw [add_plain, cell_of_row W' g _ cur _ (0, 0) hg', ← Array.getElem?_toList]
        simpa using hu
      · cases hu
    rw [e1] at y0
    rw [e2] at y1
    rw [e3] at y2
    refine ⟨[.int .i64 x.1, .int .i64 x.2.1, .slice r.2.2.1 x.2.2.length r.2.2.2.2], rfl, kMk_mk W' x e4 (hF W' hW), fun i u hu => ?_⟩
    have e5 : kMk.sz = 3 := rfl
    rw [e5]
    match i, hu with
    | 0, hu => have : u = .int .i64 x.1 := by simpa using hu.symm
               subst this; exact hcell _ _ y0
    | 1, hu => have : u = .int .i64 x.2.1 := by simpa using hu.symm
               subst this; exact hcell _ _ y1
    | 2, hu => have : u = .slice r.2.2.1 x.2.2.length r.2.2.2.2 := by simpa using hu.symm
               subst this; exact hcell _ _ y2
    | i + 3, hu => simp at hu
def ofS (ms : List MS) (o : Int) : MS × Int := if 0 ≤ ixL (fun x : MS => x.1 == o) ms 0 then (ms.getD (ixL (fun x : MS => x.1 == o) ms 0).toNat (0, 0, []), ixL (fun x : MS => x.1 == o) ms 0) else ((o, 0, []), -1)
def freshS (ms : List MS) (o s : Int) : Bool := freshR o s (ofS ms o).1.2.1 (ofS ms o).1.2.2
def noteM (ms : List MS) (o s : Int) : MS := ((ofS ms o).1.1, (lowP (ofS ms o).1.2.1 (insAt (fun x => decide (x > s)) s (ofS ms o).1.2.2)).1, (lowP (ofS ms o).1.2.1 (insAt (fun x => decide (x > s)) s (ofS ms o).1.2.2)).2)
def noteS (ms : List MS) (o s : Int) : List MS := if freshS ms o s then (if 0 ≤ (ofS ms o).2 then ms.set (ofS ms o).2.toNat (noteM ms o s) else insAt (fun x => decide (x.1 > o)) (noteM ms o s) ms) else ms
theorem of_rels {W : World} {ok : Nat → Prop} {rs : List MR} {ms : List MS} (h : Rels W ok rs ms) (o : Int) : RelM W ok (ofR rs o).1 (ofS ms o).1 ∧ (ofR rs o).2 = (ofS ms o).2 := by
  have e : ixL (fun x : MR => x.1 == o) rs 0 = ixL (fun x : MS => x.1 == o) ms 0 := h.ix (fun x => x == o) 0
  unfold ofR ofS
  rw [e]
  split
  · rename_i hz
    obtain ⟨k, hk, hkl⟩ := ixL_lt (fun x : MS => x.1 == o) ms 0 hz
    rw [hk, Nat.zero_add, Int.toNat_natCast]
    have hkr : k < rs.length := by rw [h.len]; exact hkl
    rw [List.getD_eq_getElem?_getD, List.getD_eq_getElem?_getD, List.getElem?_eq_getElem hkr, List.getElem?_eq_getElem hkl]
    exact ⟨h.get k _ _ (List.getElem?_eq_getElem hkr) (List.getElem?_eq_getElem hkl), rfl⟩
  · exact ⟨⟨rfl, rfl, rfl, Nat.le_refl _, Kd.F_nil _ _ _⟩, rfl⟩
theorem fresh_v (P : Nat → Prop) (A : Option Addr) (c : Nat) (ms : List MS) (o s : Int) (w : World) (hF : Kd.F kMk w P A ms.length ms) (hl1 : ms.length ≤ 9223372036854775807) :
    Calls Try.prog 21 #[.slice A ms.length c, .int .i64 o, .int .i64 s] w fun e w' => e = .returned (.bool (freshS ms o s)) ∧ Below w.heap.size w w' := by
  obtain ⟨rs, hrs, hrow⟩ := F_rels hF
  obtain ⟨⟨e1, e2, e3, e4, hF2⟩, e5⟩ := of_rels hrs o
  have hc := fresh_c A c rs o s w hrow (by rw [hrs.len]; exact hl1) (ofR rs o).1.2.2.1 (ofR rs o).1.2.2.2.2 (ofS ms o).1.2.2 (by rw [← e3]) (row_int hF2) (Kd.F_max hF2)
  rw [hrs.len, e2] at hc
  exact hc
set_option maxHeartbeats 8000000 in
set_option maxRecDepth 100000 in
theorem note_no (A : Option Addr) (c n : Nat) (o s : Int) (w : World) (h : ∀ w1 : World, Below w.heap.size w w1 → Calls Try.prog 21 #[.slice A n c, .int .i64 o, .int .i64 s] w1 fun e w' => e = .returned (.bool false) ∧ Below w1.heap.size w1 w') :
    Calls Try.prog 19 #[.slice A n c, .int .i64 o, .int .i64 s] w fun e w' => e = .returned (.slice A n c) ∧ Below w.heap.size w w' := by
  have HF := Lib.hid h
  clear h
  go_enter Try.func19, Try.ntmps19
  have B0 : Below w.heap.size w ((w.alloc (.cells #[.int .i64 o] 3)).alloc (.cells #[.int .i64 s] 3)) := ((Below.refl _ _).alloc (Nat.le_refl _) _).alloc (by simp) _
  go_wp2_with fail
  go_step3
  go_wp2_with fail
  refine (HF.out _ B0).mono ?_
  rintro e w1 ⟨rfl, hb⟩
  have B1 := Lib.hid (below_step B0 hb)
  clear hb B0
  go_wp2
  try simp only [Exit.noGoto]
  go_ret
  exact ⟨rfl, B1.out⟩
theorem note_v (P : Nat → Prop) (A : Option Addr) (c : Nat) (ms : List MS) (o s : Int) (w : World) (hv : Kd.V kMk 54 w w.heap.size P (.slice A ms.length c) ms) (hl1 : ms.length * 40 + 40 ≤ 140737488355328) (hl2 : (ofS ms o).1.2.2.length * 8 + 8 ≤ 140737488355328) :
    Calls Try.prog 19 #[.slice A ms.length c, .int .i64 o, .int .i64 s] w fun e w' => ∃ v : Value, e = .returned v ∧ Kd.V kMk 54 w' w.heap.size (fun k => P k ∨ w.heap.size ≤ k) v (noteS ms o s) ∧ Below w.heap.size w w' := by
  obtain ⟨_, hcl, hF⟩ := Kd.V_at hv
  cases hf : freshS ms o s with
  | false =>
    refine (note_no A c ms.length o s w (fun w1 hb => by
      have := fresh_v P A c ms o s w1 (Kd.F_below hF hb) (by omega)
      rw [hf] at this; exact this)).mono ?_
    rintro e w' ⟨rfl, hb⟩
    refine ⟨_, rfl, ?_, hb⟩
    unfold noteS
    rw [hf, if_neg (by decide)]
    exact ⟨A, c, rfl, hcl, Kd.F_mono (Kd.F_below hF hb) (fun k hk => .inl hk)⟩
  | true =>
    obtain ⟨rs, hrs, hrow⟩ := F_rels hF
    obtain ⟨⟨e1, e2, e3, e4, hF2⟩, e5⟩ := of_rels hrs o
    have hm : ofR rs o = (((ofS ms o).1.1, (ofS ms o).1.2.1, (ofR rs o).1.2.2.1, (ofS ms o).1.2.2.length, (ofR rs o).1.2.2.2.2), (ofS ms o).2) := by rw [← e1, ← e2, ← e3, ← e5]
    have hc := note_c A c rs o s w hrow (ofR rs o).1.2.2.1 (ofR rs o).1.2.2.2.2 (ofS ms o).1.2.2 (ofS ms o).1.1 (ofS ms o).1.2.1 (ofS ms o).2 hm (Kd.F_mono (Kd.F_bound hF2) (fun k hk => hk.2)) e4 (by rw [hrs.len]; exact hl1) hl2 hf
    rw [hrs.len] at hc
    refine hc.mono ?_
    rintro e w' ⟨v, A2, c2, n2, rfl, hown, hF3, hc2, hb⟩
    refine ⟨v, rfl, ?_, hb⟩
    have hrs' : Rels w' (fun k => P k ∨ w.heap.size ≤ k) rs ms := hrs.imp (fun A n l h => Kd.F_mono (Kd.F_below h hb) (fun k hk => .inl hk))
    have hrm : RelM w' (fun k => P k ∨ w.heap.size ≤ k) ((ofS ms o).1.1, (lowP (ofS ms o).1.2.1 (insAt (fun x => decide (x > s)) s (ofS ms o).1.2.2)).1, A2, (lowP (ofS ms o).1.2.1 (insAt (fun x => decide (x > s)) s (ofS ms o).1.2.2)).2.length, c2) (noteM ms o s) := ⟨rfl, rfl, rfl, hc2, Kd.F_mono hF3 (fun k hk => .inr hk)⟩
    refine V_rels hown ?_ (fun k hk => .inr (hown.lt k hk).1)
    unfold noteS
    rw [hf, if_pos rfl]
    split
    · exact Rels.set hrm hrs' _
    · have hp : place (fun x : MR => decide (x.1 > o)) rs = place (fun x : MS => decide (x.1 > o)) ms := by
        have e : ixL (fun x : MR => decide (x.1 > o)) rs 0 = ixL (fun x : MS => decide (x.1 > o)) ms 0 := hrs.ix (fun x => decide (x > o)) 0
        unfold place
        rw [e, hrs.len]
      unfold insAt
      rw [hp]
      exact Rels.put hrm hrs' _
end Go.Proofs.Ytcbfnmabckjijaa.Si
