/- Proved: the pure half of the law ShareWeights of chapter 4 (what the walked program computes is 'true'). Conditions: those of its row, no other. -/
import Derived.Test.YtokkkeepifpbpaaArgShareWeights
import Derived.Test.YtokkkeepifpbpaaEw
import Derived.IntWalk
namespace Go.Proofs.Ytokkkeepifpbpaa.Pure
open Go.IntWalk Go.RowKit Go.Proofs.Ytokkkeepifpbpaa.PShareWeights Go.Proofs.YtokkkeepifpbpaaW.PrintWords Go.Proofs.YtokkkeepifpbpaaW.PrintLast
set_option linter.unusedSimpArgs false

theorem shown : selvedgelaw04_shown.f = some true := by
  have e1 : eE [(⟨5, 0⟩ : S23), ⟨3, 0⟩] = [(5, 0), (3, 0)] := rfl
  have e2 : eS [(⟨1, ⟨8, 0⟩⟩ : S43), ⟨2, ⟨11, 0⟩⟩] = Fl.shownL := rfl
  unfold selvedgelaw04_shown.f share_Of.f share_Open.f
  simp only [Option.bind_some, e1, Fl.shown_of1, Fl.shown_of2, e2, Fl.shown_open]
  rfl
theorem rmay (a b : Int) : selvedgeref03_May.f a b = some (decide (Gm.Ok (a, b))) := by
  have e : Gm.Ok (a, b) ↔ 0 ≤ a ∧ a < 10007 ∧ 0 ≤ b ∧ b < 10007 := Iff.rfl
  unfold selvedgeref03_May.f
  by_cases h1 : a ≥ 0
  · by_cases h2 : a < 10007
    · by_cases h3 : b ≥ 0
      · rw [if_pos h1, if_pos h2, if_pos h3, Option.some.injEq, decide_eq_decide, e]
        omega
      · rw [if_pos h1, if_pos h2, if_neg h3, decide_eq_false (fun h => by rw [e] at h; omega)]
    · rw [if_pos h1, if_neg h2, decide_eq_false (fun h => by rw [e] at h; omega)]
  · rw [if_neg h1, decide_eq_false (fun h => by rw [e] at h; omega)]
theorem bp (a c : Int) (h0 : 0 ≤ a) (h1 : a < 10007) (h2 : 0 ≤ c) (h3 : c < 10007) : 0 ≤ a * c ∧ a * c ≤ 100120036 :=
  ⟨Int.mul_nonneg h0 h2, Int.le_trans (Int.mul_le_mul (show a ≤ 10006 by omega) (show c ≤ 10006 by omega) h2 (by omega)) (by decide)⟩
theorem raddF (a b c d : Int) (h : Gm.Ok (a, b)) (h2 : Gm.Ok (c, d)) : selvedgeref03_Add.f a b c d = some (Gm.add (a, b) (c, d)) := by
  have h1' := h
  have h2' := h2
  unfold Gm.Ok at h1' h2'
  simp only at h1' h2'
  unfold selvedgeref03_Add.f Gm.add Gm.gadd Gm.red
  rw [rmay, rmay]
  simp only [Option.bind_some, h, h2, decide_true, if_true]
  rw [wrap64_in _ (by omega), wrap64_in _ (by omega), Int.tmod_eq_emod_of_nonneg (by omega), Int.tmod_eq_emod_of_nonneg (by omega)]
theorem raddN (a b c d : Int) (h : ¬ (Gm.Ok (a, b) ∧ Gm.Ok (c, d))) : selvedgeref03_Add.f a b c d = some (0, 0) := by
  unfold selvedgeref03_Add.f
  rw [rmay, rmay]
  simp only [Option.bind_some, decide_eq_true_eq]
  by_cases h1 : Gm.Ok (a, b)
  · rw [if_pos h1, if_neg (fun h2 => h ⟨h1, h2⟩)]
  · rw [if_neg h1]
theorem qadd (x y : Gm.E) : selvedgeref03_Add.f x.1 x.2 y.1 y.2 = some (Fl.opE Gm.add x y) := by
  unfold Fl.opE
  by_cases h : Gm.Ok x ∧ Gm.Ok y
  · rw [if_pos h]; exact raddF _ _ _ _ h.1 h.2
  · rw [if_neg h]; exact raddN _ _ _ _ h
theorem rd_is (l : List S23) {i : Nat} (hi : i < l.length) : ((rd_T23 l (i : Int)).f0, (rd_T23 l (i : Int)).f1) = (eE l).getD i (0, 0) := by
  unfold eE rd_T23
  simp [List.getElem?_eq_getElem hi]
theorem len_ok {l : List S23} (h : l.length * 16 ≤ 140737488351232) : l.length ≤ 9223372036854775000 := by omega
theorem succ_ok {i n : Nat} (h : i < n) (hn : n ≤ 9223372036854775000) : wrap64 ((i : Int) + 1) = ((i + 1 : Nat) : Int) := by rw [wrap64_in _ (by omega)]; omega
theorem good_snoc {l : List Int} {x : Int} (h : Fl.Good l) (h1 : 1 ≤ x) (h2 : x ≤ 64) (hn : ∀ t, t < l.length → rd l t ≠ x) : Fl.Good (l ++ [x]) := by
  constructor
  · rw [List.nodup_append]
    refine ⟨h.1, by simp, fun a ha b hb => ?_⟩
    obtain rfl := List.mem_singleton.1 hb
    obtain ⟨t, ht, rfl⟩ := List.getElem_of_mem ha
    have := hn t ht
    unfold rd at this
    rw [Int.toNat_natCast, List.getD_eq_getElem?_getD, List.getElem?_eq_getElem ht] at this
    exact this
  · intro y hy
    rcases List.mem_append.1 hy with hy | hy
    · exact h.2 y hy
    · obtain rfl := List.mem_singleton.1 hy
      exact ⟨h1, h2⟩
theorem good_len {l : List Int} (h : Fl.Good l) : l.length ≤ 64 := Fl.nodup_le 64 l h.1 h.2
theorem distinct_l1 (x0 out : List Int) (i : Nat) (hi : i < x0.length) (hl : x0.length ≤ 9223372036854775000) (hg : Fl.Good out)
    (cont : ∀ o, Fl.Good o → ∃ r, Fl.Good r ∧ Fl.Ev (fun k => selvedgelaw04_distinct.l0 k x0 o ((i + 1 : Nat) : Int)) r) :
    ∀ (m j : Nat) (b : Bool), j + m = out.length → (b = false → 1 ≤ rd x0 i ∧ rd x0 i ≤ 64 ∧ ∀ t, t < j → rd out t ≠ rd x0 i) → ∃ r, Fl.Good r ∧ Fl.Ev (fun k => selvedgelaw04_distinct.l1 k x0 out i b j) r
  | 0, j, true, hj, _ => by
    obtain ⟨r, g, e⟩ := cont out hg
    refine ⟨r, g, e.step fun k => ?_⟩
    rw [selvedgelaw04_distinct.l1, if_neg (by omega), if_pos rfl, succ_ok hi hl]
  | 0, j, false, hj, hb => by
    obtain ⟨h1, h2, h3⟩ := hb rfl
    obtain ⟨r, g, e⟩ := cont (out ++ [rd x0 i]) (good_snoc hg h1 h2 fun t ht => h3 t (by omega))
    refine ⟨r, g, e.step fun k => ?_⟩
    have := good_len hg
    rw [selvedgelaw04_distinct.l1, if_neg (by omega), if_neg (by decide), if_pos (by omega), if_pos (by omega), if_pos (by omega), succ_ok hi hl]
  | m + 1, j, true, hj, _ => by
    have hlo := good_len hg
    obtain ⟨r, g, e⟩ := distinct_l1 x0 out i hi hl hg cont m (j + 1) true (by omega) (by simp)
    refine ⟨r, g, e.step fun k => ?_⟩
    rw [selvedgelaw04_distinct.l1, if_pos (by omega), if_pos rfl, succ_ok (show j < out.length by omega) (by omega)]
  | m + 1, j, false, hj, hb => by
    have hlo := good_len hg
    obtain ⟨h1, h2, h3⟩ := hb rfl
    obtain ⟨r, g, e⟩ := distinct_l1 x0 out i hi hl hg cont m (j + 1) (rd out j == rd x0 i) (by omega) (fun hq => ⟨h1, h2, fun t ht => by
      by_cases e : t = j
      · subst e
        simpa using hq
      · exact h3 t (by omega)⟩)
    refine ⟨r, g, e.step fun k => ?_⟩
    rw [selvedgelaw04_distinct.l1, if_pos (by omega), if_neg (by decide), if_pos (by omega), if_pos (by omega), if_pos (by omega), succ_ok (show j < out.length by omega) (by omega)]
theorem distinct_l0 (x0 : List Int) (hl : x0.length ≤ 9223372036854775000) : ∀ (m i : Nat) (out : List Int), i + m = x0.length → Fl.Good out → ∃ r, Fl.Good r ∧ Fl.Ev (fun k => selvedgelaw04_distinct.l0 k x0 out i) r
  | 0, i, out, hi, hg => by
    refine ⟨out, hg, Fl.Ev.step (g := fun _ => some out) (Fl.Ev.const fun _ => rfl) fun k => ?_⟩
    rw [selvedgelaw04_distinct.l0, if_neg (by omega)]
  | m + 1, i, out, hi, hg => by
    have hin : i < x0.length := by omega
    have cont := fun o ho => distinct_l0 x0 hl m (i + 1) o (by omega) ho
    by_cases h1 : rd x0 i < 1
    · obtain ⟨r, g, e⟩ := distinct_l1 x0 out i hin hl hg cont out.length 0 true (by omega) (by simp)
      refine ⟨r, g, (e.step (f := fun k => selvedgelaw04_distinct.j1 k x0 out i true) fun k => by rw [selvedgelaw04_distinct.j1]; rfl).step fun k => ?_⟩
      rw [selvedgelaw04_distinct.l0, if_pos (by omega), if_pos (by omega), if_pos h1]
    · obtain ⟨r, g, e⟩ := distinct_l1 x0 out i hin hl hg cont out.length 0 (decide (rd x0 i > 64)) (by omega) (fun hq => by
        rw [decide_eq_false_iff_not] at hq
        exact ⟨by omega, by omega, fun t ht => by omega⟩)
      refine ⟨r, g, (e.step (f := fun k => selvedgelaw04_distinct.j1 k x0 out i (decide (rd x0 i > 64))) fun k => by rw [selvedgelaw04_distinct.j1]; rfl).step fun k => ?_⟩
      rw [selvedgelaw04_distinct.l0, if_pos (by omega), if_pos (by omega), if_neg h1]
theorem distinct_ev (l : List Int) (hl : l.length * 8 ≤ 140737488351232) : ∃ r, Fl.Good r ∧ Fl.Ev (fun k => selvedgelaw04_distinct.f k l) r :=
  distinct_l0 l (by omega) l.length 0 [] (by omega) ⟨List.nodup_nil, by simp⟩
theorem eS_snoc (l : List S43) (s : S43) : eS (l ++ [s]) = eS l ++ [(s.f0, (s.f1.f0, s.f1.f1))] := by simp [eS]
theorem rd_get {l : List Int} {i : Nat} (hi : i < l.length) : rd l i = l[i] := by
  unfold rd
  rw [Int.toNat_natCast, List.getD_eq_getElem?_getD, List.getElem?_eq_getElem hi]
  rfl
theorem Good.at_ {l : List Int} (h : Fl.Good l) {i : Nat} (hi : i < l.length) : 1 ≤ rd l i ∧ rd l i ≤ 64 := by
  rw [rd_get hi]
  exact h.2 _ (List.getElem_mem hi)
theorem sum_ev (out : List Int) (s : List S43) (hg : Fl.Good out) (hs : (eS s).map (·.1) = out) : ∀ (m i : Nat), i + m = s.length →
    Fl.Ev (fun k => selvedgelaw04_ShareWeights.l1 k true out s i (Gm.sm (fun j => Gm.lag (Fl.xAt (eS s)) (eS s).length (0, 0) j) i).1 (Gm.sm (fun j => Gm.lag (Fl.xAt (eS s)) (eS s).length (0, 0) j) i).2) true
  | 0, i, hi => by
    have hol : out.length = s.length := by rw [← hs, List.length_map, eS_length]
    have hap := Fl.apart_of hg hs
    refine Fl.Ev.step (g := fun _ => some true) (Fl.Ev.const fun _ => rfl) fun k => ?_
    rw [selvedgelaw04_ShareWeights.l1, if_neg (by omega), if_pos rfl]
    by_cases h0 : (out.length : Int) = 0
    · rw [if_pos h0]
    · have := Fl.weights_one hap (by rw [eS_length]; omega)
      rw [if_neg h0, show i = (eS s).length by rw [eS_length]; omega, this]
      rfl
  | m + 1, i, hi => by
    have hol : out.length = s.length := by rw [← hs, List.length_map, eS_length]
    have hlo := good_len hg
    have hap := Fl.apart_of hg hs
    have ih := sum_ev out s hg hs m (i + 1) (by omega)
    have hw : Fl.Ev (fun k => share_Weight.f k s i) ((Fl.wtE (eS s) i).1, (Fl.wtE (eS s) i).2, 0) := by
      refine Fl.Ev.of_eq (g := fun k => (share_weight.f k s i).bind fun t => some (t.1, t.2, 0)) ?_ (fun k => ?_)
      · exact (Fl.Ev.of_mono (f := fun k => share_weight.f k s i) (fun k r h => share_weight.mono _ _ _ r h) (weight_is s i (by omega) (by omega))).bind (g := fun _ (t : Int × Int) => some (t.1, t.2, (0 : Int))) (Fl.Ev.const fun _ => rfl)
      · unfold share_Weight.f share_apart.f
        rw [if_neg (by omega), if_neg (by omega), (Fl.apB_iff _).2 hap, Option.bind_some, if_pos rfl]
    refine (hw.bind (g := fun k bt => if bt.2.2 = 0 then ((selvedgeref03_Add.f (Gm.sm (fun j => Gm.lag (Fl.xAt (eS s)) (eS s).length (0, 0) j) i).1 (Gm.sm (fun j => Gm.lag (Fl.xAt (eS s)) (eS s).length (0, 0) j) i).2 bt.1 bt.2.1).bind fun bt2 => (selvedgelaw04_ShareWeights.l1 k true out s (wrap64 ((i : Int) + 1)) bt2.1 bt2.2)) else some false) (ih.of_eq fun k => ?_)).step fun k => ?_
    · have e2 := qadd (Gm.sm (fun j => Gm.lag (Fl.xAt (eS s)) (eS s).length (0, 0) j) i) (Fl.wtE (eS s) i)
      rw [if_pos rfl, e2, Option.bind_some, succ_ok (show i < s.length by omega) (by omega), Fl.wtE_lag hap (by rw [eS_length]; omega), Fl.opE_of (Gm.sm_ok _ _) (Fl.lag_ok _ _ _ _)]
      rfl
    · rw [selvedgelaw04_ShareWeights.l1, if_pos (by omega)]
theorem make_ev (out : List Int) (hg : Fl.Good out) : ∀ (m i : Nat) (s : List S43), i + m = out.length → (eS s).map (·.1) = out.take i → Fl.Ev (fun k => selvedgelaw04_ShareWeights.l0 k true out s i) true
  | 0, i, s, hi, hs => by
    rw [List.take_of_length_le (by omega)] at hs
    refine (sum_ev out s hg hs s.length 0 (by omega)).step fun k => ?_
    rw [selvedgelaw04_ShareWeights.l0, if_neg (by omega)]
    rfl
  | m + 1, i, s, hi, hs => by
    have hlo := good_len hg
    have hsl : s.length = i := by
      have := congrArg List.length hs
      rw [List.length_map, eS_length, List.length_take] at this
      omega
    refine (make_ev out hg m (i + 1) (s ++ [⟨rd out i, ⟨0, 0⟩⟩]) (by omega) ?_).step fun k => ?_
    · rw [eS_snoc, List.map_append, hs, List.take_succ_eq_append_getElem (by omega), rd_get (by omega)]
      rfl
    · rw [selvedgelaw04_ShareWeights.l0, if_pos (by omega), if_pos (by omega), if_pos (by omega), succ_ok (show i < out.length by omega) (by omega)]
theorem ShareWeights : selvedgelaw04_ShareWeights.Pure := by
  intro l hl
  obtain ⟨out, hg, he⟩ := distinct_ev l hl.1
  refine Fl.Ev.get ?_
  refine Fl.Ev.of_eq (g := fun k => (selvedgelaw04_distinct.f k l).bind fun t => selvedgelaw04_ShareWeights.l0 k true t [] 0) ?_ (fun k => ?_)
  · exact he.bind (g := fun k t => selvedgelaw04_ShareWeights.l0 k true t [] 0) (make_ev out hg out.length 0 [] (by omega) rfl)
  · unfold selvedgelaw04_ShareWeights.f
    rw [shown, Option.bind_some]

end Go.Proofs.Ytokkkeepifpbpaa.Pure
