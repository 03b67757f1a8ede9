/- Proved: the pure half of the law ShareSpoilt of chapter 4 (what the walked program computes is 'true'). Conditions: those of its row, no other. -/
import Derived.Test.YtokkkeepifpbpaaArgShareSpoilt
import Derived.Test.YtokkkeepifpbpaaSp
import Derived.IntWalk
namespace Go.Proofs.Ytokkkeepifpbpaa.Pure
open Go.IntWalk Go.RowKit Go.Proofs.Ytokkkeepifpbpaa.PShareSpoilt Go.Proofs.YtokkkeepifpbpaaW.PrintWords Go.Proofs.YtokkkeepifpbpaaW.PrintLast
set_option linter.unusedSimpArgs false

theorem shown : selvedgelaw04_shown.f = some true := by
  have e1 : eE [(⟨5, 0⟩ : S23), ⟨3, 0⟩] = [(5, 0), (3, 0)] := rfl
  have e2 : eS [(⟨1, ⟨8, 0⟩⟩ : S43), ⟨2, ⟨11, 0⟩⟩] = Fl.shownL := rfl
  unfold selvedgelaw04_shown.f share_Of.f share_Open.f
  simp only [Option.bind_some, e1, Fl.shown_of1, Fl.shown_of2, e2, Fl.shown_open]
  rfl
theorem rmay (a b : Int) : selvedgeref03_May.f a b = some (decide (Gm.Ok (a, b))) := by
  have e : Gm.Ok (a, b) ↔ 0 ≤ a ∧ a < 10007 ∧ 0 ≤ b ∧ b < 10007 := Iff.rfl
  unfold selvedgeref03_May.f
  by_cases h1 : a ≥ 0
  · by_cases h2 : a < 10007
    · by_cases h3 : b ≥ 0
      · rw [if_pos h1, if_pos h2, if_pos h3, Option.some.injEq, decide_eq_decide, e]
        omega
      · rw [if_pos h1, if_pos h2, if_neg h3, decide_eq_false (fun h => by rw [e] at h; omega)]
    · rw [if_pos h1, if_neg h2, decide_eq_false (fun h => by rw [e] at h; omega)]
  · rw [if_neg h1, decide_eq_false (fun h => by rw [e] at h; omega)]
theorem rd_is (l : List S23) {i : Nat} (hi : i < l.length) : ((rd_T23 l (i : Int)).f0, (rd_T23 l (i : Int)).f1) = (eE l).getD i (0, 0) := by
  unfold eE rd_T23
  simp [List.getElem?_eq_getElem hi]
theorem len_ok {l : List S23} (h : l.length * 16 ≤ 140737488351232) : l.length ≤ 9223372036854775000 := by omega
theorem succ_ok {i n : Nat} (h : i < n) (hn : n ≤ 9223372036854775000) : wrap64 ((i : Int) + 1) = ((i + 1 : Nat) : Int) := by rw [wrap64_in _ (by omega)]; omega
theorem right_l (l : List S23) (hl : l.length ≤ 9223372036854775000) (r : Nat) : ∀ (m i : Nat), i + m = l.length → ∃ b, selvedgelaw04_right.l0 (r + m + 1) l i = some b ∧ (b = true ↔ ∀ j, i ≤ j → j < l.length → Gm.Ok ((eE l).getD j (0, 0)))
  | 0, i, hi => by
    rw [selvedgelaw04_right.l0, if_neg (by omega)]
    exact ⟨true, rfl, fun _ j h1 h2 => by omega, fun _ => rfl⟩
  | m + 1, i, hi => by
    rw [show r + (m + 1) + 1 = (r + m + 1) + 1 by omega, selvedgelaw04_right.l0, if_pos (by omega), if_pos (by omega), rmay, Option.bind_some, rd_is l (by omega), succ_ok (show i < l.length by omega) hl]
    by_cases ok : Gm.Ok ((eE l).getD i (0, 0))
    · rw [if_pos (by simpa using ok)]
      obtain ⟨b, hb, hx⟩ := right_l l hl r m (i + 1) (by omega)
      refine ⟨b, hb, hx.trans ⟨fun h j h1 h2 => ?_, fun h j h1 h2 => h j (by omega) h2⟩⟩
      by_cases e : j = i
      · rw [e]; exact ok
      · exact h j (by omega) h2
    · rw [if_neg (by simpa using ok)]
      exact ⟨false, rfl, fun h => (by cases h), fun h => absurd (h i (Nat.le_refl _) (by omega)) ok⟩
theorem right_is (l : List S23) (hl : l.length ≤ 9223372036854775000) (r : Nat) : ∃ b, selvedgelaw04_right.f (r + l.length + 1) l = some b ∧ (b = true → ∀ c ∈ eE l, Gm.Ok c) := by
  obtain ⟨b, h1, h2⟩ := right_l l hl r l.length 0 (by omega)
  refine ⟨b, h1, fun h c hc => ?_⟩
  obtain ⟨j, hj, rfl⟩ := List.getElem_of_mem hc
  have := h2.1 h j (Nat.zero_le _) (by rw [← eE_length]; exact hj)
  rw [List.getD_eq_getElem?_getD, List.getElem?_eq_getElem hj] at this
  exact this
theorem good_snoc {l : List Int} {x : Int} (h : Fl.Good l) (h1 : 1 ≤ x) (h2 : x ≤ 64) (hn : ∀ t, t < l.length → rd l t ≠ x) : Fl.Good (l ++ [x]) := by
  constructor
  · rw [List.nodup_append]
    refine ⟨h.1, by simp, fun a ha b hb => ?_⟩
    obtain rfl := List.mem_singleton.1 hb
    obtain ⟨t, ht, rfl⟩ := List.getElem_of_mem ha
    have := hn t ht
    unfold rd at this
    rw [Int.toNat_natCast, List.getD_eq_getElem?_getD, List.getElem?_eq_getElem ht] at this
    exact this
  · intro y hy
    rcases List.mem_append.1 hy with hy | hy
    · exact h.2 y hy
    · obtain rfl := List.mem_singleton.1 hy
      exact ⟨h1, h2⟩
theorem good_len {l : List Int} (h : Fl.Good l) : l.length ≤ 64 := Fl.nodup_le 64 l h.1 h.2
theorem distinct_l1 (x0 out : List Int) (i : Nat) (hi : i < x0.length) (hl : x0.length ≤ 9223372036854775000) (hg : Fl.Good out)
    (cont : ∀ o, Fl.Good o → ∃ r, Fl.Good r ∧ Fl.Ev (fun k => selvedgelaw04_distinct.l0 k x0 o ((i + 1 : Nat) : Int)) r) :
    ∀ (m j : Nat) (b : Bool), j + m = out.length → (b = false → 1 ≤ rd x0 i ∧ rd x0 i ≤ 64 ∧ ∀ t, t < j → rd out t ≠ rd x0 i) → ∃ r, Fl.Good r ∧ Fl.Ev (fun k => selvedgelaw04_distinct.l1 k x0 out i b j) r
  | 0, j, true, hj, _ => by
    obtain ⟨r, g, e⟩ := cont out hg
    refine ⟨r, g, e.step fun k => ?_⟩
    rw [selvedgelaw04_distinct.l1, if_neg (by omega), if_pos rfl, succ_ok hi hl]
  | 0, j, false, hj, hb => by
    obtain ⟨h1, h2, h3⟩ := hb rfl
    obtain ⟨r, g, e⟩ := cont (out ++ [rd x0 i]) (good_snoc hg h1 h2 fun t ht => h3 t (by omega))
    refine ⟨r, g, e.step fun k => ?_⟩
    have := good_len hg
    rw [selvedgelaw04_distinct.l1, if_neg (by omega), if_neg (by decide), if_pos (by omega), if_pos (by omega), if_pos (by omega), succ_ok hi hl]
  | m + 1, j, true, hj, _ => by
    have hlo := good_len hg
    obtain ⟨r, g, e⟩ := distinct_l1 x0 out i hi hl hg cont m (j + 1) true (by omega) (by simp)
    refine ⟨r, g, e.step fun k => ?_⟩
    rw [selvedgelaw04_distinct.l1, if_pos (by omega), if_pos rfl, succ_ok (show j < out.length by omega) (by omega)]
  | m + 1, j, false, hj, hb => by
    have hlo := good_len hg
    obtain ⟨h1, h2, h3⟩ := hb rfl
    obtain ⟨r, g, e⟩ := distinct_l1 x0 out i hi hl hg cont m (j + 1) (rd out j == rd x0 i) (by omega) (fun hq => ⟨h1, h2, fun t ht => by
      by_cases e : t = j
      · subst e
        simpa using hq
      · exact h3 t (by omega)⟩)
    refine ⟨r, g, e.step fun k => ?_⟩
    rw [selvedgelaw04_distinct.l1, if_pos (by omega), if_neg (by decide), if_pos (by omega), if_pos (by omega), if_pos (by omega), succ_ok (show j < out.length by omega) (by omega)]
theorem distinct_l0 (x0 : List Int) (hl : x0.length ≤ 9223372036854775000) : ∀ (m i : Nat) (out : List Int), i + m = x0.length → Fl.Good out → ∃ r, Fl.Good r ∧ Fl.Ev (fun k => selvedgelaw04_distinct.l0 k x0 out i) r
  | 0, i, out, hi, hg => by
    refine ⟨out, hg, Fl.Ev.step (g := fun _ => some out) (Fl.Ev.const fun _ => rfl) fun k => ?_⟩
    rw [selvedgelaw04_distinct.l0, if_neg (by omega)]
  | m + 1, i, out, hi, hg => by
    have hin : i < x0.length := by omega
    have cont := fun o ho => distinct_l0 x0 hl m (i + 1) o (by omega) ho
    by_cases h1 : rd x0 i < 1
    · obtain ⟨r, g, e⟩ := distinct_l1 x0 out i hin hl hg cont out.length 0 true (by omega) (by simp)
      refine ⟨r, g, (e.step (f := fun k => selvedgelaw04_distinct.j1 k x0 out i true) fun k => by rw [selvedgelaw04_distinct.j1]; rfl).step fun k => ?_⟩
      rw [selvedgelaw04_distinct.l0, if_pos (by omega), if_pos (by omega), if_pos h1]
    · obtain ⟨r, g, e⟩ := distinct_l1 x0 out i hin hl hg cont out.length 0 (decide (rd x0 i > 64)) (by omega) (fun hq => by
        rw [decide_eq_false_iff_not] at hq
        exact ⟨by omega, by omega, fun t ht => by omega⟩)
      refine ⟨r, g, (e.step (f := fun k => selvedgelaw04_distinct.j1 k x0 out i (decide (rd x0 i > 64))) fun k => by rw [selvedgelaw04_distinct.j1]; rfl).step fun k => ?_⟩
      rw [selvedgelaw04_distinct.l0, if_pos (by omega), if_pos (by omega), if_neg h1]
theorem distinct_ev (l : List Int) (hl : l.length * 8 ≤ 140737488351232) : ∃ r, Fl.Good r ∧ Fl.Ev (fun k => selvedgelaw04_distinct.f k l) r :=
  distinct_l0 l (by omega) l.length 0 [] (by omega) ⟨List.nodup_nil, by simp⟩
theorem eS_snoc (l : List S43) (s : S43) : eS (l ++ [s]) = eS l ++ [(s.f0, (s.f1.f0, s.f1.f1))] := by simp [eS]
theorem rd_get {l : List Int} {i : Nat} (hi : i < l.length) : rd l i = l[i] := by
  unfold rd
  rw [Int.toNat_natCast, List.getD_eq_getElem?_getD, List.getElem?_eq_getElem hi]
  rfl
theorem Good.at_ {l : List Int} (h : Fl.Good l) {i : Nat} (hi : i < l.length) : 1 ≤ rd l i ∧ rd l i ≤ 64 := by
  rw [rd_get hi]
  exact h.2 _ (List.getElem_mem hi)
theorem rd43 (s : List S43) {i : Nat} (hi : i < s.length) : ((rd_T43 s (i : Int)).f0, ((rd_T43 s (i : Int)).f1.f0, (rd_T43 s (i : Int)).f1.f1)) = (eS s).getD i (0, (0, 0)) := by
  unfold eS rd_T43
  simp [List.getElem?_eq_getElem hi]
theorem eS_set (s : List S43) {i : Nat} (hi : i < s.length) (a b : Int) : eS (s.set i ⟨(rd_T43 s (i : Int)).f0, ⟨a, b⟩⟩) = Fl.put (eS s) i (a, b) := by
  have h := congrArg (·.1) (rd43 s hi)
  simp only at h
  unfold Fl.put Fl.idAt
  rw [← h]
  unfold eS
  rw [List.map_set]
theorem good_take {l : List Int} (h : Fl.Good l) (n : Nat) : Fl.Good (l.take n) := ⟨h.1.sublist (List.take_sublist _ _), fun x hx => h.2 x (List.mem_of_mem_take hx)⟩
theorem eqE (x : Gm.E) (a b : Int) : (x.1 == a && x.2 == b) = decide (x = (a, b)) := by
  rw [Bool.eq_iff_iff]
  obtain ⟨u, v⟩ := x
  simp
theorem eqE' (a b c d : Int) : (a == c && b == d) = decide (((a, b) : Gm.E) = (c, d)) := by
  rw [Bool.eq_iff_iff]; simp
theorem row_at (p : List S23) (out : List Int) (s : List S43) (hg : Fl.Good out) (hs : eS s = out.map (fun x => (x, Gm.ev (eE p) (x, 0)))) : Fl.Apart (eS s) ∧ ∀ j, j < (eS s).length → Fl.vAt (eS s) j = Gm.ev (eE p) (Fl.xAt (eS s) j) := by
  refine ⟨Fl.apart_of hg (by rw [hs, List.map_map]; exact List.map_id' _), fun j hj => ?_⟩
  unfold Fl.vAt Fl.xAt Fl.idAt
  rw [hs]
  rw [hs, List.length_map] at hj
  rw [List.getD_eq_getElem?_getD, List.getElem?_eq_getElem (by rw [List.length_map]; exact hj), Option.getD_some, List.getElem_map]
theorem make_ev (p : List S23) (hp : ∀ c ∈ eE p, Gm.Ok c) (hp0 : 0 < p.length) (out : List Int) (hg : Fl.Good out) (hn : p.length ≤ out.length) (a : Nat) (ha : a < p.length) (v0 v1 : Int) (hv : Gm.Ok (v0, v1)) : ∀ (m i : Nat) (s : List S43), i + m = p.length → eS s = (out.take i).map (fun x => (x, Gm.ev (eE p) (x, 0))) → Fl.Ev (fun k => selvedgelaw04_ShareSpoilt.l0 k p a out s i v0 v1) true
  | 0, i, s, hi, hs => by
    obtain ⟨hap, hva⟩ := row_at p (out.take i) s (good_take hg i) hs
    have hlen : (eS s).length = p.length := by rw [hs, List.length_map, List.length_take]; omega
    have hsl : s.length = p.length := by rw [← eS_length, hlen]
    have hok : ∀ j, j < (eS s).length → Gm.Ok (Fl.vAt (eS s) j) := fun j hj => by rw [hva j hj]; exact Gm.ev_ok _ _
    have hsec : Fl.secret (eS s) = Gm.ev (eE p) (0, 0) := Fl.secret_of hap (f := Gm.ev (eE p)) (fun x _ => Gm.ev_ok _ _) (n := (eE p).length) (by rw [hlen, eE_length]; exact Nat.le_refl _) (Gm.pl_ev _ hp) hva
    have hpl : (Fl.put (eS s) a (v0, v1)).length = (eS s).length := Fl.put_length _ _ _
    have haL : a < (eS s).length := by omega
    have hpv : Fl.vAt (Fl.put (eS s) a (v0, v1)) a = (v0, v1) := Fl.put_v _ _ haL
    have hsame := Fl.secret_same hap hpl (fun i _ => Fl.put_id _ _ haL i) haL (fun i _ hne => Fl.put_v' _ _ hne) (hok a haL) (by rw [hpv]; exact hv)
    have e0 := rd_is p hp0
    have e43 := congrArg (·.2) (rd43 s (show a < s.length by omega))
    simp only at e43
    refine Fl.Ev.step (g := fun _ => some true) (Fl.Ev.const fun _ => rfl) fun k => ?_
    rw [selvedgelaw04_ShareSpoilt.l0, if_neg (by omega), if_pos (by omega), if_pos (by omega)]
    unfold share_Open.f
    rw [Int.toNat_natCast, eS_set s (by omega), Fl.openE_yes (by rw [hpl]; omega) (Fl.put_apart hap _ haL) (Fl.put_ok hok haL hv), Option.bind_some, if_pos rfl, if_pos (by omega), eqE, eqE']
    have e1 : Gm.ev (eE p) (0, 0) = ((rd_T23 p 0).f0, (rd_T23 p 0).f1) := by
      have e2 : ((rd_T23 p 0).f0, (rd_T23 p 0).f1) = (eE p).getD 0 (0, 0) := e0
      rw [e2]
      cases he : eE p with
      | nil =>
        have : p.length = 0 := by rw [← eE_length, he]; rfl
        omega
      | cons c q => exact Gm.ev_zero c q (hp c (by rw [he]; simp))
    rw [← e1, ← hsec, e43]
    have hw : (eS s).getD a (0, (0, 0)) = (Fl.idAt (eS s) a, Fl.vAt (eS s) a) := rfl
    rw [hw]
    rw [hpv] at hsame
    have : decide (Fl.secret (Fl.put (eS s) a (v0, v1)) = Fl.secret (eS s)) = decide (((v0, v1) : Gm.E) = Fl.vAt (eS s) a) := by
      rw [decide_eq_decide]; exact hsame
    simp only [this, beq_self_eq_true]
  | m + 1, i, s, hi, hs => by
    have hlo := good_len hg
    have hsl : s.length = i := by
      have := congrArg List.length hs
      rw [eS_length, List.length_map, List.length_take] at this
      omega
    obtain ⟨h1, h2⟩ := Good.at_ hg (show i < out.length by omega)
    refine (make_ev p hp hp0 out hg hn a ha v0 v1 hv m (i + 1) (s ++ [⟨rd out i, ⟨(Gm.ev (eE p) (rd out i, 0)).1, (Gm.ev (eE p) (rd out i, 0)).2⟩⟩]) (by omega) ?_).step fun k => ?_
    · rw [eS_snoc, hs, List.take_succ_eq_append_getElem (by omega), List.map_append, rd_get (by omega)]
      rfl
    · rw [selvedgelaw04_ShareSpoilt.l0, if_pos (by omega), if_pos (by omega), if_pos (by omega)]
      unfold share_Of.f
      rw [Fl.ofE_ok h1 h2 hp, Option.bind_some, if_pos (by omega), succ_ok (show i < p.length by omega) (by omega)]
theorem j0_ev (p : List S23) (out : List Int) (hg : Fl.Good out) (a v0 v1 : Int) (z : Bool) (hz : z = false → (∀ c ∈ eE p, Gm.Ok c) ∧ 0 < p.length ∧ p.length ≤ out.length ∧ 0 ≤ a ∧ a < p.length ∧ Gm.Ok (v0, v1)) : Fl.Ev (fun k => selvedgelaw04_ShareSpoilt.j0 k p a true out z v0 v1) true := by
  cases z with
  | true =>
    refine Fl.Ev.step (g := fun _ => some true) (Fl.Ev.const fun _ => rfl) fun k => ?_
    rw [selvedgelaw04_ShareSpoilt.j0, if_pos rfl]
  | false =>
    obtain ⟨h1, h2, h3, h4, h5, h6⟩ := hz rfl
    obtain ⟨a', rfl⟩ := Int.eq_ofNat_of_zero_le h4
    refine (make_ev p h1 h2 out hg h3 a' (by omega) v0 v1 h6 p.length 0 [] (by omega) rfl).step fun k => ?_
    rw [selvedgelaw04_ShareSpoilt.j0, if_neg (by decide)]
    rfl
theorem ShareSpoilt : selvedgelaw04_ShareSpoilt.Pure := by
  intro x hx
  obtain ⟨hp, hl, _, _⟩ := hx
  obtain ⟨out, hg, kd, hd⟩ := distinct_ev x.f1 hl.1
  obtain ⟨b, hb, ho⟩ := right_is x.f0 (len_ok hp.1) 0
  obtain ⟨kr, hr⟩ : Fl.Ev (fun k => selvedgelaw04_right.f k x.f0) b := Fl.Ev.of_mono (fun k r h => selvedgelaw04_right.mono _ _ r h) hb
  have hd : ∀ k, kd ≤ k → selvedgelaw04_distinct.f k x.f1 = some out := hd
  have hr : ∀ k, kr ≤ k → selvedgelaw04_right.f k x.f0 = some b := hr
  by_cases hC : b = true ∧ Gm.Ok (x.f3.f0, x.f3.f1) ∧ ¬ (x.f0.length : Int) < 1 ∧ ¬ (out.length : Int) < (x.f0.length : Int) ∧ ¬ x.f2 < 0
  · obtain ⟨c1, c2, c3, c4, c5⟩ := hC
    obtain ⟨kz, hz⟩ := j0_ev x.f0 out hg x.f2 x.f3.f0 x.f3.f1 (decide (x.f2 ≥ (x.f0.length : Int))) (fun hq => by
      rw [decide_eq_false_iff_not] at hq
      exact ⟨ho c1, by omega, by omega, by omega, by omega, c2⟩)
    refine ⟨max (max kd kr) kz, ?_⟩
    unfold selvedgelaw04_ShareSpoilt.f
    rw [shown, Option.bind_some, hd _ (by omega), Option.bind_some, hr _ (by omega), Option.bind_some, rmay, Option.bind_some, if_pos rfl, c1, if_pos rfl, if_pos (by simpa using c2), if_neg c3, if_neg c4, if_neg c5]
    exact hz _ (by omega)
  · obtain ⟨kt, ht⟩ := j0_ev x.f0 out hg x.f2 x.f3.f0 x.f3.f1 true (by simp)
    refine ⟨max (max kd kr) kt, ?_⟩
    have htt := ht (max (max kd kr) kt) (by omega)
    unfold selvedgelaw04_ShareSpoilt.f
    rw [shown, Option.bind_some, hd _ (by omega), Option.bind_some, hr _ (by omega), Option.bind_some, rmay, Option.bind_some, if_pos rfl]
    by_cases c1 : b = true
    · rw [if_pos c1]
      by_cases c2 : Gm.Ok (x.f3.f0, x.f3.f1)
      · rw [if_pos (by simpa using c2)]
        by_cases c3 : (x.f0.length : Int) < 1
        · rw [if_pos c3]; exact htt
        · rw [if_neg c3]
          by_cases c4 : (out.length : Int) < (x.f0.length : Int)
          · rw [if_pos c4]; exact htt
          · rw [if_neg c4]
            by_cases c5 : x.f2 < 0
            · rw [if_pos c5]; exact htt
            · exact absurd ⟨c1, c2, c3, c4, c5⟩ hC
      · rw [if_neg (by simpa using c2)]; exact htt
    · rw [if_neg c1]; exact htt

end Go.Proofs.Ytokkkeepifpbpaa.Pure
