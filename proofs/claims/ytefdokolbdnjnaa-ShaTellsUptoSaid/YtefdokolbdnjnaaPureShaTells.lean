/- The plain half of ShaTells: what the law's function computes answers true. By an AI agent. -/
import Derived.Test.YtefdokolbdnjnaaArgShaTells
import Derived.Test.YtefdokolbdnjnaaSq
import Derived.Test.YtefdokolbdnjnaaSr
import Derived.Lib.Strings
namespace Go.Proofs.Ytefdokolbdnjnaa.Pure
open Go.RowKit Go.Proofs.Ytefdokolbdnjnaa.PShaTells Go.Proofs.YtefdokolbdnjnaaW.PrintWords Go.Proofs.YtefdokolbdnjnaaW.PrintLast
open Go.Proofs.Ytefdokolbdnjnaa.Sm Go.Proofs.Ytefdokolbdnjnaa.Sa
set_option linter.unusedVariables false

theorem shown : selvedgelaw02_shown.f = some true := by
  have h1 : sha_Sum.f (⟨#[97, 98, 99]⟩ : ByteArray) = some (sumB ⟨#[97, 98, 99]⟩) := if_pos (by decide)
  have h2 : sha_Hex.f (sumB ⟨#[97, 98, 99]⟩) = some (hexB (sumB ⟨#[97, 98, 99]⟩)) := if_pos (by rw [sumB_size]; decide)
  unfold selvedgelaw02_shown.f
  rw [h1, Option.bind_some, h2, Option.bind_some, Lib.toList_data, abc_hex]
  rfl
theorem digit_c (d : Nat) (h : d < 16) : ∃ c : Int, ((digit d).toNat : Int) = c ∧ ((48 ≤ c ∧ c ≤ 57 ∧ (c - 48) % 256 = d) ∨ (¬ c ≤ 57 ∧ 97 ≤ c ∧ c ≤ 102 ∧ (c - 97) % 256 + 10 = d)) := ⟨_, rfl, digit_cases d h⟩
theorem one (k : Nat) (s : ByteArray) (t : Bool) (x : ByteArray) (i : Nat) (v : Nat) (j : Nat) (d : Nat) (hi : i ≤ 1048576) (hv : v < 16) (hd : d < 16) (hj : j < 2 * i + 2) (hx : j < x.size) (hb : bt x (j : Int) = ((digit d).toNat : Int)) :
    selvedgelaw02_ShaTells.l1 (k + 2) s t x (i : Int) (v : Int) (j : Int) = selvedgelaw02_ShaTells.l1 k s t x (i : Int) ((16 * v + d : Nat) : Int) ((j + 1 : Nat) : Int) := by
  obtain ⟨c, hcc, hc⟩ := digit_c d hd
  replace hb := hb.trans hcc
  clear hcc
  have j1 : (j : Int) < 2 * (i : Int) + 2 := by clear hc; omega
  have j2 : 0 ≤ (j : Int) := by clear hc; omega
  have j3 : (j : Int) < (x.size : Int) := by clear hc; omega
  have e4' : (j : Int) + 1 = ((j + 1 : Nat) : Int) := by omega
  rcases hc with ⟨c1, c2, c3⟩ | ⟨c1, c2, c3, c4⟩
  · have e6 : 16 * (v : Int) + (d : Int) = ((16 * v + d : Nat) : Int) := by clear c1 c2 c3; omega
    obtain ⟨e1, e2, e3, e4, e5⟩ : wrap64 (2 * (i : Int)) = 2 * (i : Int) ∧ wrap64 (2 * (i : Int) + 2) = 2 * (i : Int) + 2 ∧ wrap64 (16 * (v : Int)) = 16 * (v : Int) ∧ wrap64 ((j : Int) + 1) = (j : Int) + 1 ∧ wrap64 (16 * (v : Int) + (d : Int)) = 16 * (v : Int) + (d : Int) :=
      ⟨wrap64_in _ (by omega), wrap64_in _ (by omega), wrap64_in _ (by omega), wrap64_in _ (by omega), wrap64_in _ (by omega)⟩
    have c1 : c ≥ 48 := c1
    rw [selvedgelaw02_ShaTells.l1, e1, e2, if_pos j1, if_pos j2, if_pos j3, hb, if_pos c1]
    unfold selvedgelaw02_ShaTells.j2
    rw [if_pos (decide_eq_true c2), e3, c3, e4, e5, e4', e6]
  · have c0 : c ≥ 48 := by omega
    have c2 : c ≥ 97 := c2
    have e6 : 16 * (v : Int) + (c - 97) % 256 + 10 = ((16 * v + d : Nat) : Int) := by omega
    obtain ⟨e1, e2, e3, e4, e5, e7⟩ : wrap64 (2 * (i : Int)) = 2 * (i : Int) ∧ wrap64 (2 * (i : Int) + 2) = 2 * (i : Int) + 2 ∧ wrap64 (16 * (v : Int)) = 16 * (v : Int) ∧ wrap64 ((j : Int) + 1) = (j : Int) + 1 ∧ wrap64 (16 * (v : Int) + (c - 97) % 256) = 16 * (v : Int) + (c - 97) % 256 ∧ wrap64 (16 * (v : Int) + (c - 97) % 256 + 10) = 16 * (v : Int) + (c - 97) % 256 + 10 :=
      ⟨wrap64_in _ (by omega), wrap64_in _ (by omega), wrap64_in _ (by omega), wrap64_in _ (by omega), wrap64_in _ (by omega), wrap64_in _ (by omega)⟩
    rw [selvedgelaw02_ShaTells.l1, e1, e2, if_pos j1, if_pos j2, if_pos j3, hb, if_pos c0]
    unfold selvedgelaw02_ShaTells.j2
    rw [if_neg (by rw [decide_eq_false c1]; exact Bool.false_ne_true), if_pos c2, if_pos c3, e3, e5, e7, e4, e4', e6]
theorem tells (s : ByteArray) (hs : s.size ≤ 1048576) : ∀ (m i : Nat), i + m = s.data.toList.length → selvedgelaw02_ShaTells.l0 (6 * m + 1) s true (hexB s) (i : Int) = some true := by
  have hl := size_len s
  have hz := hexB_size s
  intro m
  induction m with
  | zero =>
    intro i hi
    have h1 : ¬ ((i : Int) < (s.size : Int)) := by omega
    rw [selvedgelaw02_ShaTells.l0, if_neg h1]
  | succ m ih =>
    intro i hi
    have hlt : i < s.data.toList.length := by omega
    have h1 : ((i : Int) < (s.size : Int)) := by omega
    have hb := (s.data.toList[i]).toNat_lt
    obtain ⟨g1, g2⟩ := hexB_bt s i hlt
    have o1 := one (6 * m + 1 + 2 + 1) s true (hexB s) i 0 (2 * i) ((s.data.toList[i]).toNat / 16) (by omega) (by omega) (by omega) (by omega) (by omega) g1
    have o2 := one (6 * m + 1 + 1) s true (hexB s) i ((s.data.toList[i]).toNat / 16) (2 * i + 1) ((s.data.toList[i]).toNat % 16) (by omega) (by omega) (by omega) (by omega) (by omega) g2
    clear g1 g2
    have n1 : 6 * (m + 1) + 1 = 6 * m + 1 + 2 + 1 + 2 + 1 := by clear o1 o2; omega
    have n2 : 16 * 0 + (s.data.toList[i]).toNat / 16 = (s.data.toList[i]).toNat / 16 := by clear o1 o2; omega
    have n3 : 6 * m + 1 + 2 + 1 = 6 * m + 1 + 1 + 2 := by clear o1 o2; omega
    have n4 : ¬ (((2 * i + 1 + 1 : Nat) : Int) < 2 * (i : Int) + 2) := by clear o1 o2; omega
    have n5 : 0 ≤ (i : Int) := by clear o1 o2; omega
    have n6 : ((16 * ((s.data.toList[i]).toNat / 16) + (s.data.toList[i]).toNat % 16 : Nat) : Int) = (((s.data.toList[i]).toNat : Nat) : Int) := by clear o1 o2; omega
    have e3' : 2 * (i : Int) = ((2 * i : Nat) : Int) := by clear o1 o2; omega
    have e4' : (i : Int) + 1 = ((i + 1 : Nat) : Int) := by clear o1 o2; omega
    obtain ⟨e1, e2, e4, e5⟩ : wrap64 (2 * (i : Int)) = 2 * (i : Int) ∧ wrap64 (2 * (i : Int) + 2) = 2 * (i : Int) + 2 ∧ wrap64 ((i : Int) + 1) = (i : Int) + 1 ∧ wrap64 (((s.data.toList[i]).toNat : Nat) : Int) = (((s.data.toList[i]).toNat : Nat) : Int) := by
      clear o1 o2
      exact ⟨wrap64_in _ (by omega), wrap64_in _ (by omega), wrap64_in _ (by omega), wrap64_in _ (by omega)⟩
    rw [n1, selvedgelaw02_ShaTells.l0, if_pos h1, e1, e3']
    refine Eq.trans o1 ?_
    rw [n2, n3]
    refine Eq.trans o2 ?_
    rw [selvedgelaw02_ShaTells.l1, e1, e2, if_neg n4, if_pos n5, if_pos h1, bt_nat s i hlt, e5, if_pos n6, e4, e4']
    exact ih (i + 1) (by omega)
theorem ShaTells : selvedgelaw02_ShaTells.Pure := by
  intro s hs hn
  simp only at hn
  have h3 : sha_Hex.f s = some (hexB s) := if_pos (by omega)
  have h5 : ((hexB s).size : Int) = wrap64 (2 * (s.size : Int)) := by rw [hexB_size, wrap64_in _ (by omega)]; omega
  refine ⟨6 * s.data.toList.length + 1, ?_⟩
  unfold selvedgelaw02_ShaTells.f
  rw [shown, Option.bind_some, h3, Option.bind_some, if_pos h5]
  exact tells s (by omega) s.data.toList.length 0 (by omega)

end Go.Proofs.Ytefdokolbdnjnaa.Pure
