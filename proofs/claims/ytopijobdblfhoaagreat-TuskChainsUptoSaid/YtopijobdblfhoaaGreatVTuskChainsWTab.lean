import Derived.Test.YtopijobdblfhoaaGreatVTuskChainsWLast
import Derived.Test.YtopijobdblfhoaaGreatVTuskChainsWWords
/- Trimmed by a program. By an AI agent. -/
namespace Go.Proofs.YtopijobdblfhoaaGreatW.PrintLast
open Go.Proofs.YtopijobdblfhoaaGreatW.PrintWords (Qan)
def Qd0 (md : Region.Mode) (o : Oper) : List Nat := (o.after.toList.filter (fun e => Region.binds md e)).map (fun e => e.on)
def Qje (md : Region.Mode) (ops : Array Oper) (i : Nat) (oi : Oper) : List Nat := (List.range ops.size).filter fun j => !(j == i) && match ops[j]? with
 | some oj => !(oj.after.any (fun e => Region.binds md e && e.on == i) || oi.apart ops oj)
 | none => false
def Qcp (md : Region.Mode) (ops : Array Oper) : Bool × List (List Nat × List Nat) := (Region.noSelect ops, (List.range ops.size).map fun i => match ops[i]? with
 | some o => (Qd0 md o, Qje md ops i o)
 | none => ([], []))
def Qcx (T : List (List Nat × List Nat)) (l : List Bool) (i : Nat) : Bool := !l.getD i true && match T[i]? with
 | some r => r.1.all (fun j => l.getD j false)
 | none => false
def Qgb (T : List (List Nat × List Nat)) (l : List Bool) : List Nat := (List.range T.length).filter (Qcx T l)
def Qna (T : List (List Nat × List Nat)) (l : List Bool) (i : Nat) : Bool := match T[i]? with
 | some r => r.2.all (fun j => l.getD j true)
 | none => false
def Qgw (T : List (List Nat × List Nat)) (l : List Bool) : Bool := (List.range T.length).all fun j => !l.getD j false || match T[j]? with
 | some r => r.1.all (fun k => l.getD k false)
 | none => true
def Qf7 (T : List (List Nat × List Nat)) (i : Nat) : Nat → Nat → Bool
 | 0, _ => false
 | fuel + 1, d => match T[d]? with
  | some r => r.1.any fun j => j == i || Qf7 T i fuel j
  | none => false
def Qoz (T : List (List Nat × List Nat)) (l : List Bool) (ds : List Nat) (i : Nat) : Bool := ds.all fun d => l.getD d true || Qf7 T i T.length d
section
variable {md : Region.Mode} {ops : Array Oper} {T : Bool × List (List Nat × List Nat)} {l l' li lj lk : Array Bool} {ds : List Nat} {i j k : Nat}
theorem gd (l : Array Bool) (j : Nat) (b : Bool) : l.getD j b = l.toList.getD j b := by simp [Array.getD_eq_getD_getElem?, List.getD_eq_getElem?_getD]
theorem Qh0 (o : Oper) (p : Nat → Bool) : o.after.all (fun e => !Region.binds md e || p e.on) = (Qd0 md o).all p := by
 unfold Qd0; rw [← Array.all_toList]
 induction o.after.toList with
 | nil => rfl
 | cons e r ih =>
  rw [List.all_cons, ih, List.filter_cons]; cases h : Region.binds md e <;> simp
theorem Qm0 (o : Oper) (p : Nat → Bool) : o.after.any (fun e => Region.binds md e && p e.on) = (Qd0 md o).any p := by
 unfold Qd0; rw [← Array.any_toList]
 induction o.after.toList with
 | nil => rfl
 | cons e r ih =>
  rw [List.any_cons, ih, List.filter_cons]; cases h : Region.binds md e <;> simp
theorem Qcj : (Qcp md ops).2.length = ops.size := by simp [Qcp]
theorem Qdn {o : Oper} (h : ops[i]? = some o) : (Qcp md ops).2[i]? = some (Qd0 md o, Qje md ops i o) := by
 have hi := (Array.getElem?_eq_some_iff.1 h).1; unfold Qcp; rw [List.getElem?_map, List.getElem?_range hi, Option.map_some, h]
theorem Qdr (h : ops[i]? = none) : (Qcp md ops).2[i]? = none := by
 have hi : ops.size ≤ i := Array.getElem?_eq_none_iff.1 h; exact List.getElem?_eq_none (by rw [Qcj]; exact hi)
theorem Qlp : Qcx (Qcp md ops).2 l.toList i = (!l.getD i true && ((ops[i]?).map (·.after.all fun e => !Region.binds md e || l.getD e.on false)).getD false) := by
 unfold Qcx; rw [gd]
 cases h : ops[i]? with
 | none => rw [Qdr h]; rfl
 | some o =>
  rw [Qdn h]; simp only [Option.map_some, Option.getD_some]; rw [← Qh0]; simp only [gd]
theorem ready_eq : Region.ready md ops l = Qgb (Qcp md ops).2 l.toList := by
 unfold Region.ready Qgb; rw [Qcj]; refine List.filter_congr (fun i _ => ?_); rw [Qlp]
theorem free_eq : Region.free md ops l i = Qna (Qcp md ops).2 l.toList i := by
 unfold Region.free Qna
 cases h : ops[i]? with
 | none => rw [Qdr h]
 | some oi =>
  rw [Qdn h]; simp only [Qje]; rw [List.all_filter]; congr 1
  funext j
  rw [gd]
  cases hj : ops[j]? with
  | none => cases (j == i) <;> cases (l.toList.getD j true) <;> simp
  | some oj =>
   cases (j == i) <;> cases (l.toList.getD j true) <;> cases (oj.after.any (fun e => Region.binds md e && e.on == i) || oi.apart ops oj) <;> simp_all
theorem Qmh : Region.closedB md ops l = Qgw (Qcp md ops).2 l.toList := by
 unfold Region.closedB Qgw; rw [Qcj]; congr 1
 funext j
 rw [gd]
 cases h : ops[j]? with
 | none => rw [Qdr h]
 | some o =>
  rw [Qdn h]; simp only; rw [← Qh0]; simp only [gd]
theorem Qjy : ∀ (fuel d : Nat), Region.reachB md ops i fuel d = Qf7 (Qcp md ops).2 i fuel d
 | 0, _ => rfl
 | fuel + 1, d => by
  unfold Region.reachB Qf7
  cases h : ops[d]? with
  | none => rw [Qdr h]
  | some o =>
   rw [Qdn h]; simp only; rw [← Qm0]; congr 1
   funext e
   rw [Qjy fuel]
theorem last_eq : Region.lastB md ops l ds i = Qoz (Qcp md ops).2 l.toList ds i := by
 unfold Region.lastB Qoz; rw [Qcj]; congr 1
 funext d
 rw [gd, Qjy]
theorem Qfh (h : Qcx T.2 l.toList i = true) (hT : Qcp md ops = T) : (Region.ready md ops l).contains i = true := by
 subst hT; rw [ready_eq]; unfold Qgb; rw [List.contains_iff_mem, List.mem_filter, List.mem_range]; refine ⟨?_, h⟩; unfold Qcx at h; rw [Bool.and_eq_true] at h
 cases hq : (Qcp md ops).2[i]? with
 | none => rw [hq] at h; simp at h
 | some r => exact (List.getElem?_eq_some_iff.1 hq).1
theorem Ql9 (h : (l.toList.set i true == l'.toList) = true) : (l.setIfInBounds i true == l') = true := by
 rw [beq_iff_eq] at h ⊢; apply Array.ext'; rw [Array.toList_setIfInBounds]; exact h
def anyT (T : Bool × List (List Nat × List Nat)) (l l' : List Bool) (i : Nat) : Bool := T.1 && Qna T.2 l i && Qcx T.2 l i && (l.set i true == l')
theorem Qp6 (hT : Qcp md ops = T) (h : anyT T l.toList l'.toList i = true) : anyB md ops l l' i = true := by
 simp only [anyT, Bool.and_eq_true] at h; obtain ⟨⟨⟨h1, h2⟩, h3⟩, h4⟩ := h; have h5 := Qfh h3 hT; have h6 := Ql9 h4; subst hT; simp only [anyB, Bool.and_eq_true]; exact ⟨⟨⟨h1, by rw [free_eq]; exact h2⟩, h5⟩, h6⟩
def takeT (T : Bool × List (List Nat × List Nat)) (ds : List Nat) (l l' : List Bool) (i : Nat) : Bool := T.1 && Qna T.2 l i && Qcx T.2 l i && Qgw T.2 l && Qoz T.2 l ds i && (l.set i true == l')
theorem take_of (hT : Qcp md ops = T) (h : takeT T ds l.toList l'.toList i = true) : takeB md ops ds l l' i = true := by
 simp only [takeT, Bool.and_eq_true] at h; obtain ⟨⟨⟨⟨⟨h1, h2⟩, h3⟩, h4⟩, h5⟩, h6⟩ := h; have h7 := Qfh h3 hT; have h8 := Ql9 h6; subst hT; simp only [takeB, Bool.and_eq_true]; exact ⟨⟨⟨⟨⟨h1, by rw [free_eq]; exact h2⟩, h7⟩, by rw [Qmh]; exact h4⟩, by rw [last_eq]; exact h5⟩, h8⟩
theorem Qe0 (hT : Qcp md ops = T) (h : (Qgb T.2 l.toList == [i] && l.toList.set i true == l'.toList) = true) : Qf4 md ops l l' i = true := by
 simp only [Bool.and_eq_true] at h; obtain ⟨h1, h2⟩ := h; subst hT; simp only [Qf4, Bool.and_eq_true]; exact ⟨by rw [ready_eq]; exact h1, Ql9 h2⟩
theorem Qbc (hT : Qcp md ops = T) (h : (Qgb T.2 l.toList == []) = true) : (Region.ready md ops l == []) = true := by
 subst hT; rw [ready_eq]; exact h
def upM (B : List Nat) (d : Nat) : List Nat → Nat
 | [] => 0
 | n :: r => (2 ^ n ||| (if n < d then B.getD n 0 else 0)) ||| upM B d r
def Qbi (T : List (List Nat × List Nat)) (B : List Nat) : Bool := (List.range T.length).all fun d => match T[d]? with
 | some r => (B.getD d 0 ||| upM B d r.1) == upM B d r.1
 | none => false
theorem Ql1 {B : List Nat} {d i : Nat} : ∀ {ns : List Nat}, (upM B d ns).testBit i = true → ∃ n ∈ ns, n = i ∨ (n < d ∧ (B.getD n 0).testBit i = true)
 | [], h => by simp [upM] at h
 | n :: r, h => by
  unfold upM at h; rw [Nat.testBit_or, Nat.testBit_or, Bool.or_eq_true, Bool.or_eq_true] at h
  rcases h with (h | h) | h
  ·
   rw [Nat.testBit_two_pow] at h; exact ⟨n, List.mem_cons_self, .inl (by simpa using h)⟩
  ·
   by_cases hn : n < d
   ·
    rw [if_pos hn] at h; exact ⟨n, List.mem_cons_self, .inr ⟨hn, h⟩⟩
   ·
    rw [if_neg hn] at h; simp at h
  ·
   obtain ⟨m, hm, h2⟩ := Ql1 h; exact ⟨m, List.mem_cons_of_mem _ hm, h2⟩
theorem Qhh {T : List (List Nat × List Nat)} {B : List Nat} (hB : Qbi T B = true) : ∀ (fuel d : Nat), d < fuel → d < T.length → (B.getD d 0).testBit i = true → Qf7 T i fuel d = true
 | 0, d, h, _, _ => by omega
 | fuel + 1, d, h, hd, hb => by
  have h1 := List.all_eq_true.1 hB d (List.mem_range.2 hd)
  cases hr : T[d]? with
  | none => rw [hr] at h1; simp at h1
  | some r =>
   rw [hr] at h1; simp only [beq_iff_eq] at h1; have h2 : (upM B d r.1).testBit i = true := by rw [← h1, Nat.testBit_or, hb, Bool.true_or]
   obtain ⟨n, hn, h3⟩ := Ql1 h2; unfold Qf7; rw [hr]; simp only; rw [List.any_eq_true]; refine ⟨n, hn, ?_⟩
   rcases h3 with rfl | ⟨h4, h5⟩
   ·
    simp
   ·
    rw [Qhh hB fuel n (by omega) (by omega) h5, Bool.or_true]
def lastW (T : List (List Nat × List Nat)) (B : List Nat) (l : List Bool) (ds : List Nat) (i : Nat) : Bool := ds.all fun d => l.getD d true || (decide (d < T.length) && (B.getD d 0).testBit i)
def takeW (T : Bool × List (List Nat × List Nat)) (B : List Nat) (ds : List Nat) (l l' : List Bool) (i : Nat) : Bool := T.1 && Qna T.2 l i && Qcx T.2 l i && Qgw T.2 l && lastW T.2 B l ds i && (l.set i true == l')
theorem Qnz {B : List Nat} (hT : Qcp md ops = T) (hB : Qbi T.2 B = true) (h : takeW T B ds l.toList l'.toList i = true) : takeB md ops ds l l' i = true := by
 refine take_of hT ?_; simp only [takeW, takeT, Bool.and_eq_true] at h ⊢; obtain ⟨⟨⟨⟨⟨h1, h2⟩, h3⟩, h4⟩, h5⟩, h6⟩ := h; refine ⟨⟨⟨⟨⟨h1, h2⟩, h3⟩, h4⟩, ?_⟩, h6⟩; unfold lastW at h5; unfold Qoz; rw [List.all_eq_true] at h5 ⊢; intro d hd; have h7 := h5 d hd; rw [Bool.or_eq_true, Bool.and_eq_true, decide_eq_true_eq] at h7
 rcases h7 with h7 | ⟨h8, h9⟩
 ·
  rw [h7, Bool.true_or]
 ·
  rw [Qhh hB _ d h8 h8 h9, Bool.or_true]
theorem Qav {P : Program} {Q : Exit → Act → World → Prop} {S : World → Prop} {n : Nat} {a : Act} {w : World} {B : List Nat} (hT : Qcp md ops = T) (hB : Qbi T.2 B = true) (h : Qan (Qcp md ops = T) → Qan (Qbi T.2 B = true) → Qai P md ops Q S ds n l a w) : Qai P md ops Q S ds n l a w := h ⟨hT⟩ ⟨hB⟩
end
def Qfr : Code → Nat → Option (Array Oper)
 | .region id ops _, k => if id == k then some ops else none
 | .seq a b, k => match Qfr a k with
  | some o => some o
  | none => Qfr b k
 | .cond _ a b, k => match Qfr a k with
  | some o => some o
  | none => Qfr b k
 | .block _ c, k => Qfr c k
 | .loop c, k => Qfr c k
 | .scope c, k => Qfr c k
 | .rangeFunc _ _ a b, k => match Qfr a k with
  | some o => some o
  | none => Qfr b k
 | _, _ => none
def opsOf (f : Func) (k : Nat) : Array Oper := ((f.body.bind fun c => Qfr c k)).getD #[]
end Go.Proofs.YtopijobdblfhoaaGreatW.PrintLast
