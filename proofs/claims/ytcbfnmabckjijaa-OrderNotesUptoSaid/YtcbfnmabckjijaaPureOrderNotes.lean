import Derived.Test.YtcbfnmabckjijaaArgOrderNotes
import Derived.Test.YtcbfnmabckjijaaNp
import Derived.Test.YtcbfnmabckjijaaEk
namespace Go.Proofs.Ytcbfnmabckjijaa.Pure
open Go.RowKit Go.Proofs.Ytcbfnmabckjijaa.POrderNotes Go.Proofs.YtcbfnmabckjijaaW.PrintWords Go.Proofs.YtcbfnmabckjijaaW.PrintLast
set_option linter.unusedVariables false
set_option linter.unusedSimpArgs false

open Go.Proofs.Ytcbfnmabckjijaa.Ek
set_option maxRecDepth 100000 in
theorem shown_true : selvedgelaw14_shown.f 400 = some true := by decide +kernel
theorem shown_ev : Evk (fun k => selvedgelaw14_shown.f k) true := Evk.of_mono (fun k r h => selvedgelaw14_shown.mono k r h) shown_true
theorem w64 (x : Int) (h : -4611686018427387904 ≤ x) (h' : x ≤ 4611686018427387904) : wrap64 x = x := Go.IntWalk.wrap64_in x (by omega)
theorem fresh_e (m : List S54) (o s : Int) : order_Fresh.f m o s = some (Si.freshS (mkOf m) o s) := rfl
theorem note_e (m : List S54) (o s : Int) (h : Si.RightS (mkOf m)) : order_Note.f m o s = some (mkTo (Si.noteS (mkOf m) o s)) := by
  unfold order_Note.f
  have h1 := Si.right_len h
  have h2 := Si.above_new h o
  rw [mkOf_length] at h1
  rw [if_pos ⟨by omega, by omega⟩]
theorem rd_mk (m : List S54) (i : Nat) (h : i < m.length) : ((rd_T54 m i).f0, (rd_T54 m i).f1, (rd_T54 m i).f2) ∈ mkOf m := by
  have e : rd_T54 m i = m[i] := by
    unfold rd_T54
    rw [Int.toNat_natCast, List.getD_eq_getElem?_getD, List.getElem?_eq_getElem h]; rfl
  rw [e]
  exact List.mem_map.2 ⟨m[i], List.getElem_mem h, rfl⟩
theorem rd_mem (l : List Int) (i : Nat) (h : i < l.length) : rd l (i : Int) = l[i] := by
  unfold rd
  rw [Int.toNat_natCast, List.getD_eq_getElem?_getD, List.getElem?_eq_getElem h]; rfl
theorem rd54_eq (m : List S54) (i : Nat) (h : i < m.length) : rd_T54 m (i : Int) = m[i] := by
  unfold rd_T54
  rw [Int.toNat_natCast, List.getD_eq_getElem?_getD, List.getElem?_eq_getElem h]; rfl
theorem right_in (x0 : List S54) (x3 : Int) (f0 f1 : Int) (f2 : List Int) (hr : Si.RightM (f0, f1, f2)) (hnext : Evk (fun k => selvedgeref14_Right.l0 k x0 (wrap64 (x3 + 1))) true) : ∀ (n i : Nat), i + n = f2.length → Evk (fun k => selvedgeref14_Right.l1 k x0 x3 (i : Int) f0 f1 f2) true
  | 0, i, h => Evk.step hnext (fun k => by
      show selvedgeref14_Right.l1 (k + 1) x0 x3 (i : Int) f0 f1 f2 = _
      rw [selvedgeref14_Right.l1, if_neg (by omega)])
  | n + 1, i, h => by
    have hl7 := Si.above_len hr
    have hl7' : f2.length ≤ 7 := hl7
    have hi : i < f2.length := by omega
    obtain ⟨r1, r2, r3, r4, r5, r6⟩ := hr
    have ih := right_in x0 x3 f0 f1 f2 ⟨r1, r2, r3, r4, r5, r6⟩ hnext n (i + 1) (by omega)
    have hm := r5 (f2[i]) (List.getElem_mem hi)
    have r6' : f2.Pairwise (fun a b => a < b) := r6
    refine Evk.step ih (fun k => ?_)
    show selvedgeref14_Right.l1 (k + 1) x0 x3 (i : Int) f0 f1 f2 = selvedgeref14_Right.l1 k x0 x3 ((i + 1 : Nat) : Int) f0 f1 f2
    simp only at hm r3 r4
    rw [selvedgeref14_Right.l1, if_pos (by omega), if_pos (by omega), rd_mem f2 i hi, w64 (f2[i] - f1) (by omega) (by omega), if_neg (by omega), if_neg (by omega), w64 ((i : Int) + 1) (by omega) (by omega), w64 ((i : Int) - 1) (by omega) (by omega)]
    by_cases h0 : i = 0
    · subst h0
      rw [if_neg (by omega)]
      rfl
    · rw [if_pos (by omega), if_pos (by omega), if_pos (by omega)]
      have e : ((i : Int) - 1) = ((i - 1 : Nat) : Int) := by omega
      rw [e, rd_mem f2 (i - 1) (by omega), if_neg (by have := (List.pairwise_iff_getElem.1 r6') (i - 1) i (by omega) hi (by omega); omega)]
      rfl
theorem right_out (m : List S54) (hr : Si.RightS (mkOf m)) : ∀ (n i : Nat), i + n = m.length → Evk (fun k => selvedgeref14_Right.l0 k m (i : Int)) true
  | 0, i, h => Evk.step (Evk.ret true) (fun k => by
      show selvedgeref14_Right.l0 (k + 1) m (i : Int) = _
      rw [selvedgeref14_Right.l0, if_neg (by omega)])
  | n + 1, i, h => by
    have hlen := Si.right_len hr
    rw [mkOf_length] at hlen
    have hi : i < m.length := by omega
    have ih := right_out m hr n (i + 1) (by omega)
    have hM : Si.RightM ((m[i]).f0, (m[i]).f1, (m[i]).f2) := hr.1 _ (List.mem_map.2 ⟨m[i], List.getElem_mem hi, rfl⟩)
    have hin := right_in m (i : Int) (m[i]).f0 (m[i]).f1 (m[i]).f2 hM (by
      rw [w64 ((i : Int) + 1) (by omega) (by omega)]
      exact ih) (m[i]).f2.length 0 (by omega)
    obtain ⟨r1, r2, r3, r4, r5, r6⟩ := hM
    simp only at r1 r2 r3
    have hj : Evk (fun k => selvedgeref14_Right.j1 k m (i : Int) false (m[i]).f0 (m[i]).f1 (m[i]).f2) true := Evk.step hin (fun k => by
      show selvedgeref14_Right.j1 (k + 1) m (i : Int) false (m[i]).f0 (m[i]).f1 (m[i]).f2 = _
      rw [selvedgeref14_Right.j1, if_neg (by decide)]; rfl)
    refine Evk.step hj (fun k => ?_)
    show selvedgeref14_Right.l0 (k + 1) m (i : Int) = _
    rw [selvedgeref14_Right.l0, if_pos (by omega), if_pos (by omega), rd54_eq m i hi, if_neg (by omega), if_neg (by omega), if_neg (by omega), w64 ((i : Int) - 1) (by omega) (by omega)]
    by_cases h0 : i = 0
    · rw [if_neg (by omega)]
    · rw [if_pos (by omega), if_pos (by omega), if_pos (by omega)]
      have e : ((i : Int) - 1) = ((i - 1 : Nat) : Int) := by omega
      have hp := (List.pairwise_iff_getElem.1 hr.2) (i - 1) i (by rw [mkOf_length]; omega) (by rw [mkOf_length]; omega) (by omega)
      have hp' : (m[i - 1]).f0 < (m[i]).f0 := by simpa [mkOf] using hp
      rw [e, rd54_eq m (i - 1) (by omega), decide_eq_false (by omega)]
theorem right_ev (m : List S54) (hr : Si.RightS (mkOf m)) : Evk (fun k => selvedgeref14_Right.f k m) true := Evk.of_eq (right_out m hr m.length 0 (by omega)) (fun k => rfl)
def small (q : S50) : Prop := -1099511627776 ≤ q.f1 ∧ q.f1 ≤ 8 ∧ 1 ≤ q.f0 ∧ q.f0 ≤ 64
def Inv (l : List S50) (i : Nat) (ms : List Si.MS) : Prop := Si.RightS ms ∧ ∀ (j : Nat) (q : S50), j < i → l[j]? = some q → small q → Si.Done ms q.f0 q.f1
theorem rd50_eq (l : List S50) (i : Nat) (h : i < l.length) : rd_T50 l (i : Int) = l[i] := by
  unfold rd_T50
  rw [Int.toNat_natCast, List.getD_eq_getElem?_getD, List.getElem?_eq_getElem h]; rfl
theorem inv_skip {l : List S50} {i : Nat} {ms : List Si.MS} (h : Inv l i ms) (hi : i < l.length) (hs : (l[i]).f1 > 1099511627776 ∨ (l[i]).f1 < -1099511627776) : Inv l (i + 1) ms := by
  refine ⟨h.1, fun j q hj hq hsm => ?_⟩
  by_cases e : j = i
  · subst e
    rw [List.getElem?_eq_getElem hi] at hq
    have e := Option.some.inj hq
    subst e
    obtain ⟨s1, s2, _, _⟩ := hsm
    omega
  · exact h.2 j q (by omega) hq hsm
theorem inv_note {l : List S50} {i : Nat} {ms : List Si.MS} (h : Inv l i ms) (hi : i < l.length) (h1 : (l[i]).f1 ≤ 1099511627776) (h2 : -1099511627776 ≤ (l[i]).f1) : Inv l (i + 1) (Si.noteS ms (l[i]).f0 (l[i]).f1) := by
  refine ⟨(Si.noteS_spec h.1 _ _ h1 h2).1, fun j q hj hq hsm => ?_⟩
  by_cases e : j = i
  · subst e
    rw [List.getElem?_eq_getElem hi] at hq
    have e := Option.some.inj hq
    subst e
    obtain ⟨s1, s2, s3, s4⟩ := hsm
    cases hf : Si.freshS ms (l[j]).f0 (l[j]).f1 with
    | true => exact Si.done_self h.1 _ _ h1 h2 hf
    | false => exact Si.done_note h.1 _ _ _ _ h1 h2 (Si.done_small h.1 _ _ s3 s4 s2 s1 hf)
  · exact Si.done_note h.1 _ _ _ _ h1 h2 (h.2 j q (by omega) hq hsm)
theorem again {ms : List Si.MS} (h : Si.RightS ms) (o s : Int) (h1 : s ≤ 1099511627776) (h2 : -1099511627776 ≤ s) : Si.freshS (Si.noteS ms o s) o s = false := by
  cases hf : Si.freshS ms o s with
  | true => exact Si.done_stale (Si.done_self h o s h1 h2 hf)
  | false =>
    have e : Si.noteS ms o s = ms := by unfold Si.noteS; rw [hf, if_neg (by decide)]
    rw [e]; exact hf
theorem tail_ev (l : List S50) (hl : l.length ≤ 8796093022208) (m : List S54) (i : Nat) (hi : i < l.length) (fr : Bool) (x8 : Int) (ha : Si.freshS (mkOf m) (l[i]).f0 (l[i]).f1 = false) (hnext : Evk (fun k => selvedgelaw14_OrderNotes.l0 k l true m ((i + 1 : Nat) : Int)) true) :
    Evk (fun k => selvedgelaw14_OrderNotes.j3 k l true m (i : Int) fr x8 false) true := Evk.step hnext (fun k => by
  show selvedgelaw14_OrderNotes.j3 (k + 1) l true m (i : Int) fr x8 false = _
  rw [selvedgelaw14_OrderNotes.j3, if_neg (by decide), if_pos (by omega), if_pos (by omega), rd50_eq l i hi, fresh_e, ha, Option.bind_some, if_neg (by decide), w64 ((i : Int) + 1) (by omega) (by omega)]
  rfl)
theorem inner_ev (l : List S50) (hl : l.length ≤ 8796093022208) (m : List S54) (i : Nat) (hi : i < l.length) (fr : Bool) (hfr : fr = true → ∀ (j : Nat) (q : S50), j < i → l[j]? = some q → q.f0 = (l[i]).f0 → q.f1 = (l[i]).f1 → ¬ q.f1 ≤ 8) (ha : Si.freshS (mkOf m) (l[i]).f0 (l[i]).f1 = false) (hnext : Evk (fun k => selvedgelaw14_OrderNotes.l0 k l true m ((i + 1 : Nat) : Int)) true) :
    ∀ (n x : Nat), x + n = i → Evk (fun k => selvedgelaw14_OrderNotes.l1 k l true m (i : Int) fr (x : Int)) true
  | 0, x, h => Evk.step (tail_ev l hl m i hi fr (x : Int) ha hnext) (fun k => by
      show selvedgelaw14_OrderNotes.l1 (k + 1) l true m (i : Int) fr (x : Int) = _
      rw [selvedgelaw14_OrderNotes.l1, if_neg (by omega)])
  | n + 1, x, h => by
    have ih := inner_ev l hl m i hi fr hfr ha hnext n (x + 1) (by omega)
    cases fr with
    | false => exact Evk.step (tail_ev l hl m i hi false (x : Int) ha hnext) (fun k => by
        show selvedgelaw14_OrderNotes.l1 (k + 1) l true m (i : Int) false (x : Int) = _
        rw [selvedgelaw14_OrderNotes.l1, if_pos (by omega)])
    | true =>
      have hx : x < l.length := by omega
      have hq := hfr rfl x (l[x]) (by omega) (List.getElem?_eq_getElem hx)
      have hj : Evk (fun k => selvedgelaw14_OrderNotes.j3 k l true m (i : Int) true (x : Int) true) true := Evk.step ih (fun k => by
        show selvedgelaw14_OrderNotes.j3 (k + 1) l true m (i : Int) true (x : Int) true = _
        rw [selvedgelaw14_OrderNotes.j3, if_pos rfl, if_pos (by omega), if_pos (by omega), if_pos (by omega), if_pos (by omega), rd50_eq l x hx, rd50_eq l i hi, w64 ((x : Int) + 1) (by omega) (by omega)]
        split
        · rename_i hc
          simp only [Bool.and_eq_true, beq_iff_eq] at hc
          rw [if_neg (hq hc.1 hc.2)]
          rfl
        · rfl)
      exact Evk.step hj (fun k => by
        show selvedgelaw14_OrderNotes.l1 (k + 1) l true m (i : Int) true (x : Int) = _
        rw [selvedgelaw14_OrderNotes.l1, if_pos (by omega)])
theorem outer_ev (l : List S50) (hl : l.length ≤ 8796093022208) : ∀ (n i : Nat) (m : List S54), i + n = l.length → Inv l i (mkOf m) → Evk (fun k => selvedgelaw14_OrderNotes.l0 k l true m (i : Int)) true
  | 0, i, m, h, _ => Evk.step (Evk.ret true) (fun k => by
      show selvedgelaw14_OrderNotes.l0 (k + 1) l true m (i : Int) = _
      rw [selvedgelaw14_OrderNotes.l0, if_neg (by omega)])
  | n + 1, i, m, h, hinv => by
    have hi : i < l.length := by omega
    by_cases hs : (l[i]).f1 > 1099511627776 ∨ (l[i]).f1 < -1099511627776
    · have ih := outer_ev l hl n (i + 1) m (by omega) (inv_skip hinv hi hs)
      have hj : Evk (fun k => selvedgelaw14_OrderNotes.j1 k l true m (i : Int) true) true := Evk.step ih (fun k => by
        show selvedgelaw14_OrderNotes.j1 (k + 1) l true m (i : Int) true = _
        rw [selvedgelaw14_OrderNotes.j1, if_pos rfl, w64 ((i : Int) + 1) (by omega) (by omega)]
        rfl)
      refine Evk.step hj (fun k => ?_)
      show selvedgelaw14_OrderNotes.l0 (k + 1) l true m (i : Int) = _
      rw [selvedgelaw14_OrderNotes.l0, if_pos (by omega), if_pos (by omega), rd50_eq l i hi]
      rcases hs with hs | hs
      · rw [if_pos hs]
      · split
        · rfl
        · rw [decide_eq_true hs]
    · have h1 : (l[i]).f1 ≤ 1099511627776 := by omega
      have h2 : -1099511627776 ≤ (l[i]).f1 := by omega
      have hinv2 := inv_note hinv hi h1 h2
      have hmk := mkOf_to (Si.noteS (mkOf m) (l[i]).f0 (l[i]).f1)
      have ih := outer_ev l hl n (i + 1) (mkTo (Si.noteS (mkOf m) (l[i]).f0 (l[i]).f1)) (by omega) (by rw [hmk]; exact hinv2)
      have hin := inner_ev l hl (mkTo (Si.noteS (mkOf m) (l[i]).f0 (l[i]).f1)) i hi (Si.freshS (mkOf m) (l[i]).f0 (l[i]).f1) (fun hf j q hj hq e0 e1 h8 => by
        obtain ⟨f1, f2, _, _, _⟩ := (Si.freshR_iff _ _ _ _).1 hf
        have hd := hinv.2 j q hj hq ⟨by omega, h8, by omega, by omega⟩
        rw [e0, e1] at hd
        rw [Si.done_stale hd] at hf
        cases hf) (by rw [hmk]; exact again hinv.1 _ _ h1 h2) ih i 0 (by omega)
      have hrt := right_ev (mkTo (Si.noteS (mkOf m) (l[i]).f0 (l[i]).f1)) (by rw [hmk]; exact hinv2.1)
      have hj : Evk (fun k => selvedgelaw14_OrderNotes.j1 k l true m (i : Int) false) true := by
        refine Evk.step (Evk.bind hrt (g := fun k b => if b = true then selvedgelaw14_OrderNotes.l1 k l true (mkTo (Si.noteS (mkOf m) (l[i]).f0 (l[i]).f1)) (i : Int) (Si.freshS (mkOf m) (l[i]).f0 (l[i]).f1) 0 else some false) (Evk.of_eq hin (fun k => by rw [if_pos rfl]; rfl))) (fun k => ?_)
        show selvedgelaw14_OrderNotes.j1 (k + 1) l true m (i : Int) false = _
        rw [selvedgelaw14_OrderNotes.j1, if_neg (by decide), if_pos (by omega), if_pos (by omega), rd50_eq l i hi, fresh_e, Option.bind_some, note_e m _ _ hinv.1, Option.bind_some]
      refine Evk.step hj (fun k => ?_)
      show selvedgelaw14_OrderNotes.l0 (k + 1) l true m (i : Int) = _
      rw [selvedgelaw14_OrderNotes.l0, if_pos (by omega), if_pos (by omega), rd50_eq l i hi, if_neg (by omega), decide_eq_false (by omega)]
theorem OrderNotes : selvedgelaw14_OrderNotes.Pure := by
  intro l hg _
  have hlen : l.length * 16 ≤ 140737488351232 := hg.1
  have h := Evk.bind (g := fun k b => selvedgelaw14_OrderNotes.l0 k l b ([] : List S54) 0) shown_ev (outer_ev l (by omega) l.length 0 [] (by omega) ⟨Si.right_nil, fun j q hj => by omega⟩)
  exact h.get
end Go.Proofs.Ytcbfnmabckjijaa.Pure
