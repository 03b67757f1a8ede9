import Derived.Test.YtopijobdblfhoaaGreatVTuskChainsPk
import Derived.Test.YtopijobdblfhoaaGreatVTuskChainsHz
import Derived.ArgAppend
import Derived.Lib.ConvBytes
import Derived.Lib.AppendStr
import Derived.Laws.IdiomCopy
import Derived.Deep.CutRange
set_option linter.unusedVariables false
set_option linter.unusedSimpArgs false
/- Trimmed by a program. By an AI agent. -/
section
namespace Go.Proofs.YtopijobdblfhoaaGreat.Sa
open Go.RowKit Go.Proofs.YtopijobdblfhoaaGreatW.PrintWords Go.Proofs.YtopijobdblfhoaaGreatW.PrintLast Go.Proofs.YtopijobdblfhoaaGreatW.PrintMore

def BB (base : Nat) (w : World) (v : Value) (l : List Int) : Prop :=
 ∃ g cap, v = .slice (some ⟨g, 0, none⟩) l.length cap ∧ base ≤ g ∧ g < w.heap.size ∧ l.length ≤ cap ∧ cap ≤ maxLen ∧ (∀ j, j < cap → (w.cell? ⟨g, j, none⟩).isSome = true) ∧ (∀ j, j < cap → w.frozen? ⟨g, j, none⟩ = false) ∧ (∀ j x, l[j]? = some x → w.cell? ⟨g, j, none⟩ = some (.int .u8 x))
theorem BB.base {base : Nat} {w : World} {v : Value} {l : List Int} (h : BB base w v l) : ∀ k, v.ownBlock = some k → base ≤ k := by
 obtain ⟨g, cap, rfl, hb, _⟩ := h; intro k hk; simp only [Value.ownBlock, Option.some.injEq] at hk; omega
theorem BB.below {base : Nat} {w w1 : World} {v : Value} {l : List Int} (h : BB base w v l) (hb : Below w.heap.size w w1) : BB base w1 v l := by
 obtain ⟨g, cap, rfl, h1, h2, h3, h4, h5, h6, h7⟩ := h; refine ⟨g, cap, rfl, h1, by have := hb.size; omega, h3, h4, fun j hj => ?_, fun j hj => ?_, fun j x hx => ?_⟩
 ·
  rw [hb.cell (p := ⟨g, j, none⟩) h2]; exact h5 j hj
 ·
  rw [hb.frozen (p := ⟨g, j, none⟩) h2]; exact h6 j hj
 ·
  rw [hb.cell (p := ⟨g, j, none⟩) h2]; exact h7 j x hx
theorem BB.other {base : Nat} {w w1 : World} {v : Value} {l : List Int} {row : Option Nat} (h : BB base w v l) (hg : w.grownBy w1 row) (hne : v.ownBlock ≠ row) : BB base w1 v l := by
 obtain ⟨g, cap, rfl, h1, h2, h3, h4, h5, h6, h7⟩ := h; have hh := hg.block g h2 (by simpa [Value.ownBlock] using hne); refine ⟨g, cap, rfl, h1, by have := hg.size; omega, h3, h4, fun j hj => ?_, fun j hj => ?_, fun j x hx => ?_⟩
 ·
  have := h5 j hj; simpa [World.cell?, hh] using this
 ·
  have := h6 j hj; simpa [World.frozen?, hh] using this
 ·
  have := h7 j x hx; simpa [World.cell?, hh] using this
theorem BB.alloc {base : Nat} {w : World} {v : Value} {l : List Int} (h : BB base w v l) (o : Obj) : BB base (w.alloc o) v l := h.below ((Below.refl _ _).alloc (Nat.le_refl _) _)
theorem BB.reads {base : Nat} {w : World} {v : Value} {l : List Int} (h : BB base w v l) : ∃ A c, v = .slice A l.length c ∧ Qaw w .u8 A l.length l := by
 obtain ⟨g, cap, rfl, h1, h2, h3, h4, h5, h6, h7⟩ := h; refine ⟨_, _, rfl, rfl, by unfold maxLen at h4; omega, fun _ => ⟨_, rfl, fun j hj => ?_⟩⟩; rw [add_plain]; exact (h7 j _ (List.getElem?_eq_getElem hj)).trans (by simp [List.getD_eq_getElem?_getD, List.getElem?_eq_getElem hj])
theorem BB.of_own {base : Nat} {w : World} {v : Value} {l : List Int} {e : TypeId} (h : w.ownsRow base e 1 v l.length (nums .u8 l)) (hv : v ≠ .slice none 0 0) : BB base w v l := by
 rcases h.2 with ⟨h0, _⟩ | ⟨g, cap, cur, rfl, hb, hg, hn, hc, hs, ht⟩
 ·
  exact absurd h0 hv
 ·
  have hs' : cur.size = cap := by simpa using hs
  refine ⟨g, cap, rfl, hb, Qb7 hg, hn, hc, fun j hj => ?_, fun j _ => Qad hg j, fun j x hx => ?_⟩
  ·
   rw [Qaa hg j, Array.getElem?_eq_getElem (by omega)]; rfl
  ·
   have hj : j < l.length := (List.getElem?_eq_some_iff.1 hx).1; rw [Qaa hg j]; have : (cur.toList.take (l.length * 1))[j]? = (nums .u8 l)[j]? := by rw [ht]
   rw [List.getElem?_take_of_lt (by omega)] at this; rw [← Array.getElem?_toList, this]; simp [nums, hx]
theorem BB.of_bytes {base : Nat} {w : World} (s : ByteArray) (hb : base ≤ w.heap.size) (hs : s.size ≤ 140737488355328) : BB base (Lib.bytesWorld w 5 s) (.slice (some ⟨w.heap.size, 0, none⟩) s.size (grownCap w s.size 0 5)) (bytesOf s) := by
 have hg := Lib.bytesWorld_at_new w 5 s; have hge := grownCap_ge w s.size 0 5; have hcm : grownCap w s.size 0 5 ≤ maxLen := grownCap_le_maxLen w s.size 0 5 (by unfold maxLen; omega)
 have hsz : (Lib.bytesCells w 5 s).size = grownCap w s.size 0 5 := by
  have : s.data.size = s.size := rfl; simp [Lib.bytesCells]; omega
 refine ⟨w.heap.size, grownCap w s.size 0 5, by rw [bytesOf_length], hb, Qb7 hg, by rw [bytesOf_length]; exact hge, hcm, fun j hj => ?_, fun j hj => ?_, fun j x hx => ?_⟩
 ·
  have : (Lib.bytesWorld w 5 s).cell? ⟨w.heap.size, j, none⟩ = (Lib.bytesCells w 5 s)[j]? := cell_of_row _ _ _ _ _ _ hg; rw [this, Array.getElem?_eq_getElem (by omega)]; rfl
 ·
  have : ¬ ((Lib.bytesCells w 5 s).size ≤ j) := by omega
  simp [World.frozen?, hg, this]
 ·
  have hj : j < s.size := by have := (List.getElem?_eq_some_iff.1 hx).1; rw [bytesOf_length] at this; exact this
  rw [Lib.bytesWorld_cell w 5 s j hj]; have hj' : j < s.data.toList.length := by rw [Qda]; exact hj
  simp [bytesOf, List.getElem?_eq_getElem hj'] at hx; simp [List.getD_eq_getElem?_getD, List.getElem?_eq_getElem hj', ← hx]

theorem Qdj (b : Nat) : ∀ (vs : List Value) (o : Nat) (w : World) (k : Nat), k ≠ b → (w.setCells b o vs).heap[k]? = w.heap[k]?
 | [], _, _, _, _ => rfl
 | v :: r, o, w, k, h => by
  rw [World.setCells, Qdj b r (o + 1) _ k h]; exact Below.heap_setCell _ _ _ _ h
theorem setCells_size (b : Nat) : ∀ (vs : List Value) (o : Nat) (w : World), (w.setCells b o vs).heap.size = w.heap.size
 | [], _, _ => rfl
 | v :: r, o, w => by
  rw [World.setCells, setCells_size b r (o + 1)]; simp [World.setCell]
theorem Qcf (b : Nat) : ∀ (vs : List Value) (o : Nat) (w : World), (w.setCells b o vs).os = w.os ∧ (w.setCells b o vs).tape = w.tape ∧ (w.setCells b o vs).output = w.output
 | [], _, _ => ⟨rfl, rfl, rfl⟩
 | v :: r, o, w => by
  rw [World.setCells]; exact Qcf b r (o + 1) _
theorem Qcn (w : World) (b o : Nat) (vs : List Value) : w.grownBy (w.setCells b o vs) (some b) :=
 ⟨(Qcf b vs o w).1, (Qcf b vs o w).2.1, (Qcf b vs o w).2.2, by rw [setCells_size]; exact Nat.le_refl _, fun k _ hk => Qdj b vs o w k (fun e => hk (by rw [e]))⟩
theorem BB.wrote {base g cap : Nat} {w : World} {l ys : List Int} (h : BB base w (.slice (some ⟨g, 0, none⟩) l.length cap) l) (hr : l.length + ys.length ≤ cap) :
  BB base (w.setCells g (0 + l.length * 1) (nums .u8 ys)) (.slice (some ⟨g, 0, none⟩) (l.length + ys.length) cap) (l ++ ys) := by
 obtain ⟨g', cap', he, h1, h2, h3, h4, h5, h6, h7⟩ := h
 injection he with e1 _ e3
 injection e1 with e1
 injection e1 with e1
 subst e1 e3; simp only [Nat.zero_add, Nat.mul_one]
 have hin : ∀ j, j < (nums .u8 ys).length → (w.cell? ⟨g, l.length + j, none⟩).isSome = true := fun j hj => h5 _ (by rw [nums_length] at hj; omega)
 refine ⟨g, cap, by rw [List.length_append], h1, by rw [setCells_size]; exact h2, by rw [List.length_append]; exact hr, h4, fun j hj => ?_, fun j hj => ?_, fun j x hx => ?_⟩
 ·
  by_cases h : l.length ≤ j ∧ j < l.length + ys.length
  ·
   obtain ⟨i, rfl⟩ : ∃ i, j = l.length + i := ⟨j - l.length, by omega⟩; rw [World.cell?_setCells_in g (nums .u8 ys) l.length w hin i (by rw [nums_length]; omega)]; rfl
  ·
   rw [World.cell?_setCells_out g (nums .u8 ys) l.length w ⟨g, j, none⟩ (fun _ _ => by rw [nums_length]; show j < l.length ∨ l.length + ys.length ≤ j; omega)]; exact h5 j hj
 ·
  rw [World.frozen?_setCells]; exact h6 j hj
 ·
  by_cases h : j < l.length
  ·
   rw [List.getElem?_append_left h] at hx; rw [World.cell?_setCells_out g (nums .u8 ys) l.length w ⟨g, j, none⟩ (fun _ _ => .inl h)]; exact h7 j x hx
  ·
   obtain ⟨i, rfl⟩ : ∃ i, j = l.length + i := ⟨j - l.length, by omega⟩; rw [List.getElem?_append_right (by omega), Nat.add_sub_cancel_left] at hx; have hi : i < ys.length := (List.getElem?_eq_some_iff.1 hx).1; rw [World.cell?_setCells_in g (nums .u8 ys) l.length w hin i (by rw [nums_length]; exact hi)]; simp [nums]; have := (List.getElem?_eq_some_iff.1 hx).2; exact this
theorem Qgr : (Tryz.prog.info? 5).map (fun i => (i.zero, i.size, i.bytes)) = some (some (.int .u8 0), 1, 1) := by kernel_rfl
theorem BB.append_row {base : Nat} {w : World} {v : Value} {l ys : List Int} {A : Option Addr} {m c : Nat} (ty : TypeId) (h : BB base w v l) (hr : Qaw w .u8 A m ys) (hl : l.length + m ≤ 140737488355328) (hbase : base ≤ w.heap.size) :
  ∃ v1 w1, (Builtin.append_ #[124, 124] ty #[v, .slice A m c]).run Tryz.prog w = .ok v1 w1 ∧ BB base w1 v1 (l ++ ys) ∧ w.grownBy w1 v.ownBlock := by
 obtain ⟨i0, hi, hz0, hz1, hz2⟩ := info_parts Qgr; have hm : ys.length = m := hr.1; have h' := h; obtain ⟨g, cap, rfl, h1, h2, h3, h4, h5, h6, h7⟩ := h
 rcases A with _ | ad
 ·
  have h0 : m = 0 := by
   rcases Nat.eq_zero_or_pos m with h0 | h0
   ·
    exact h0
   ·
    obtain ⟨ad, h, _⟩ := hr.2.2 h0; cases h
  subst h0; obtain rfl : ys = [] := List.eq_nil_of_length_eq_zero hm; refine ⟨_, w, ?_, by simpa using h', World.grownBy.refl w _⟩; simp [Builtin.append_, run_underlying Tryz.underlying124, sizeOf, typeInfo, hi, Builtin.lenOf, Builtin.firstCells, h3, storeCells]
 ·
  have hcells : ∀ j u, (nums .u8 ys)[j]? = some u → w.cell? (ad.add j) = some u := by
   intro j u hu
   have hj : j < ys.length := by
    rcases Nat.lt_or_ge j ys.length with h | h
    ·
     exact h
    ·
     simp [nums, List.getElem?_eq_none h] at hu
   obtain ⟨ad', hq, hc⟩ := hr.2.2 (by omega); obtain rfl := Option.some.inj hq; have := hc j (by omega); simp [nums, List.getElem?_eq_getElem hj] at hu; subst hu; rw [this]; simp [List.getD_eq_getElem?_getD, List.getElem?_eq_getElem hj]
  have hone : ∀ u ∈ nums .u8 ys, u.oneCell' = true := by intro u hu; simp only [nums, List.mem_map] at hu; obtain ⟨q, _, rfl⟩ := hu; rfl
  by_cases hroom : l.length + m ≤ cap
  ·
   have hrun := run_append_room_cells (P := Tryz.prog) w 124 ty 5 i0 Tryz.underlying124 hi g 0 l.length cap ad m c (nums .u8 ys) (by rw [nums_length, hz1, hm, Nat.mul_one]) hcells hone hroom
    (fun j hj => by rw [nums_length] at hj; rw [hz1]; simp only [Nat.zero_add, Nat.mul_one]; exact h5 _ (by omega)) (fun j hj => by rw [nums_length] at hj; rw [hz1]; simp only [Nat.zero_add, Nat.mul_one]; exact h6 _ (by omega))
   rw [hz1] at hrun; refine ⟨_, _, hrun, ?_, Qcn _ _ _ _⟩; have := h'.wrote (ys := ys) (by omega); rw [hm] at this; exact this
  ·
   obtain ⟨v1, w1, hrun, hown, hg⟩ := run_append_arg_grows (P := Tryz.prog) w 124 ty 5 i0 (.int .u8 0) 1 1 Tryz.underlying124 hi hz0 hz1 hz2 rfl (by decide) ⟨g, 0, none⟩ l.length cap (nums .u8 l) (by rw [nums_length]; omega)
    (fun j u hu => by
     simp only [nums, List.getElem?_map, Option.map_eq_some_iff] at hu; obtain ⟨x, hx, rfl⟩ := hu; rw [add_plain]
     exact h7 j x hx) ad m c (nums .u8 ys) (by rw [nums_length]; omega) hcells (by omega) (by unfold maxLen; omega) (by omega)
   have hown' : w1.ownsRow w.heap.size 5 1 v1 (l ++ ys).length (nums .u8 (l ++ ys)) := by
    rw [List.length_append, hm, nums_append]; exact hown
   refine ⟨v1, w1, hrun, ?_, ⟨hg.os, hg.tape, hg.output, hg.size, fun k hk _ => hg.block k hk (by simp)⟩⟩; refine BB.of_own (e := 5) (Qnv hown' hbase) ?_; intro hv; rw [hv] at hown'; have h1' := hown'.1
   have : (l ++ ys).length = 0 := by
    rcases hown'.2 with ⟨_, h0⟩ | ⟨_, _, _, h0, _⟩
    ·
     exact h0
    ·
     cases h0
   rw [List.length_append] at this; omega
theorem BB.append_str {base : Nat} {w : World} {v : Value} {l : List Int} (ty : TypeId) (s : ByteArray) (h : BB base w v l) (hl : l.length + s.size ≤ 140737488355328) (hbase : base ≤ w.heap.size) :
  ∃ v1 w1, (Builtin.append_ #[124, 9] ty #[v, .string s]).run Tryz.prog w = .ok v1 w1 ∧ BB base w1 v1 (l ++ bytesOf s) ∧ w.grownBy w1 v.ownBlock := by
 obtain ⟨i0, hi, hz0, hz1, hz2⟩ := info_parts Qgr; have h' := h; obtain ⟨g, cap, rfl, h1, h2, h3, h4, h5, h6, h7⟩ := h; have hsc : Lib.strCells s = nums .u8 (bytesOf s) := by simp [Lib.strCells, nums, bytesOf]
 by_cases hroom : l.length + s.size ≤ cap
 ·
  have hf := Lib.run_firstCells_string (P := Tryz.prog) w 1 s; have hst := run_storeCells_cells (P := Tryz.prog) g l.length (Lib.strCells s) 0 w (fun j hj => by rw [Lib.strCells_length] at hj; exact h5 _ (by omega)) (fun j hj => by rw [Lib.strCells_length] at hj; exact h6 _ (by omega)) (Lib.strCells_oneCell s); simp only [Nat.add_zero] at hst; refine ⟨.slice (some ⟨g, 0, none⟩) (l.length + s.size) cap, w.setCells g (0 + l.length * 1) (nums .u8 (bytesOf s)), ?_, ?_, Qcn _ _ _ _⟩
  ·
   rw [← hsc]; simp [Builtin.append_, run_underlying Tryz.underlying124, run_underlying Tryz.underlying9, sizeOf, typeInfo, hi, hz1, Builtin.lenOf, hroom, hf, Addr.add_lit, hst]
  ·
   have := h'.wrote (ys := bytesOf s) (by rw [bytesOf_length]; exact hroom); rw [bytesOf_length] at this; exact this
 ·
  have hlt : cap < l.length + s.size := by omega
  have hr := Lib.run_append_grow_string (P := Tryz.prog) w 124 9 ty 5 i0 (.int .u8 0) Tryz.underlying124 Tryz.underlying9 hi hz0 ⟨g, 0, none⟩ l.length cap (nums .u8 l) (by rw [nums_length, hz1]; omega)
   (fun j u hu => by
    simp only [nums, List.getElem?_map, Option.map_eq_some_iff] at hu; obtain ⟨x, hx, rfl⟩ := hu; rw [add_plain]
    exact h7 j x hx) s hlt (by omega) (by rw [hz2]; exact growslice_fits hlt (by omega))
  have hge := grownCap_ge w (l.length + s.size) cap 5; have hcm : grownCap w (l.length + s.size) cap 5 ≤ maxLen := grownCap_le_maxLen w _ _ _ (by unfold maxLen; omega); refine ⟨_, _, hr, ?_, ⟨rfl, rfl, rfl, by simp, fun k hk _ => Go.heap_alloc_old w.drew _ hk⟩⟩; refine BB.of_own (e := 5) ?_ (by simp); refine ⟨by rw [nums_length]; omega, .inr ⟨w.heap.size, _, _, ?_, hbase, heap_alloc_new w.drew _, ?_, hcm, ?_, ?_⟩⟩
  ·
   rw [List.length_append, bytesOf_length]
  ·
   rw [List.length_append, bytesOf_length]; exact hge
  ·
   have hz1 : (Value.int IntKind.u8 0).cells.size = 1 := rfl; simp only [Array.size_append, List.size_toArray, size_zeroCells, hz1, nums_length, Lib.strCells_length]; omega
  ·
   rw [hsc]; simp only [Array.toList_append, List.append_assoc]; rw [← List.append_assoc, ← nums_append]; have : (l ++ bytesOf s).length * 1 = (nums .u8 (l ++ bytesOf s)).length := by rw [nums_length]; omega
   rw [this]; exact List.take_left
section
variable {ops : Array Oper} {rest : List Oper} {o : Oper} {a : Act} {Q : Exit → Act → World → Prop}
theorem Qg4 {base : Nat} {w : World} {v : Value} {l ys : List Int} {A : Option Addr} {m c : Nat} (hgd : o.guard = none) (s x : Operand) (ho : o.op = .call { callee := .builtin .append, args := #[s, x], argTypes := #[124, 124] }) (hs : a.eval s = v) (hx : a.eval x = .slice A m c)
  (h : BB base w v l) (hr : Qaw w .u8 A m ys) (hl : l.length + m ≤ 140737488355328) (hbase : base ≤ w.heap.size)
  (hK : ∀ v1 w1, BB base w1 v1 (l ++ ys) → w.grownBy w1 v.ownBlock → wpList Tryz.prog ops Q rest (a.put o.dst v1) w1) : wpList Tryz.prog ops Q (o :: rest) a w := by
 obtain ⟨v1, w1, hrun, hb, hg⟩ := h.append_row o.type hr hl hbase (c := c)
 refine wpList_plain hgd fun K hK' => ?_
 unfold Oper.wp execOp; simp only [ho, resolve, invoke, builtin, Sem.run_bind, Sem.run_pure, Result.andThen_ok, List.map_toArray, List.map_cons, List.map_nil, hs, hx, hrun]; exact hK' _ _ (hK v1 w1 hb hg)
theorem Qdm {base : Nat} {w : World} {v : Value} {l : List Int} {y : Int} (hgd : o.guard = none) (s x : Operand) (ho : o.op = .call { callee := .builtin .append, args := #[s, x], argTypes := #[124, 124] }) (hs : a.eval s = v) (hx : a.eval x = .slice (some ⟨w.heap.size, 0, none⟩) 1 1)
  (h : BB base w v l) (hl : l.length + 1 ≤ 140737488355328) (hbase : base ≤ w.heap.size)
  (hK : ∀ v1 w1, BB base w1 v1 (l ++ [y]) → w.grownBy w1 v.ownBlock → wpList Tryz.prog ops Q rest (a.put o.dst v1) w1) : wpList Tryz.prog ops Q (o :: rest) a (w.alloc (.cells #[.int .u8 y] 5)) := by
 refine Qg4 hgd s x ho hs hx (h.alloc _) (ys := [y]) ⟨rfl, by decide, fun _ => ⟨_, rfl, fun j hj => ?_⟩⟩ hl (by simp; omega) (fun v1 w1 hb hg => hK v1 w1 hb (World.grownBy.trans (World.grownBy_alloc w _ _) hg)); obtain rfl : j = 0 := by omega
 rw [add_plain]; exact Qaa (Qa9 w _) 0
theorem Qg6 {base : Nat} {w : World} {v : Value} {l : List Int} (str : ByteArray) (hgd : o.guard = none) (s x : Operand) (ho : o.op = .call { callee := .builtin .append, args := #[s, x], argTypes := #[124, 9] }) (hs : a.eval s = v) (hx : a.eval x = .string str)
  (h : BB base w v l) (hl : l.length + str.size ≤ 140737488355328) (hbase : base ≤ w.heap.size)
  (hK : ∀ v1 w1, BB base w1 v1 (l ++ bytesOf str) → w.grownBy w1 v.ownBlock → wpList Tryz.prog ops Q rest (a.put o.dst v1) w1) : wpList Tryz.prog ops Q (o :: rest) a w := by
 obtain ⟨v1, w1, hrun, hb, hg⟩ := h.append_str o.type str hl hbase
 refine wpList_plain hgd fun K hK' => ?_
 unfold Oper.wp execOp; simp only [ho, resolve, invoke, builtin, Sem.run_bind, Sem.run_pure, Result.andThen_ok, List.map_toArray, List.map_cons, List.map_nil, hs, hx, hrun]; exact hK' _ _ (hK v1 w1 hb hg)
end
theorem BB.str {base : Nat} {w : World} {v : Value} {l : List Int} (h : BB base w v l) : (convert 124 9 v).run Tryz.prog w = .ok (.string (strOfNums l)) w := by
 obtain ⟨A, c, rfl, hr⟩ := h.reads; exact Qcr (P := Tryz.prog) Tryz.underlying124 Tryz.underlying5 Tryz.underlying9 hr
end Go.Proofs.YtopijobdblfhoaaGreat.Sa
end
section
namespace Go.Proofs.YtopijobdblfhoaaGreat.Sa
open Go.Proofs.YtopijobdblfhoaaGreat.Sm
open Go.RowKit Go.Proofs.YtopijobdblfhoaaGreatW.PrintWords Go.Proofs.YtopijobdblfhoaaGreatW.PrintLast

set_option maxHeartbeats 4000000 in
set_option maxRecDepth 100000 in
theorem Qek (w : World) : Calls Tryz.prog 91 #[] w fun e w' => e = .returned (Qqe Qh6) ∧ Below w.heap.size w w' := by
 go_enter Tryz.func91, Tryz.ntmps91
 go_wp2_with fail
 refine bodyPost_ret (v := Qqe Qh6) ?_ rfl ⟨rfl, (Below.refl _ _).alloc (Nat.le_refl _) _⟩; simp [results, Tryz.results91, go_sem, Qqe, Qh6]
set_option maxHeartbeats 8000000 in
set_option maxRecDepth 100000 in
theorem Qo2 (w : World) : Calls Tryz.prog 108 #[] w fun e w' => e = .returned (Qqe Qc1) ∧ Below w.heap.size w w' := by
 have hst := Lib.hid (run_storeAt_new (P := Tryz.prog) w 137 #[.int .u32 0, .int .u32 0, .int .u32 0, .int .u32 0, .int .u32 0, .int .u32 0, .int .u32 0, .int .u32 0, .int .u32 0, .int .u32 0, .int .u32 0, .int .u32 0, .int .u32 0, .int .u32 0, .int .u32 0, .int .u32 0, .int .u32 0, .int .u32 0, .int .u32 0, .int .u32 0, .int .u32 0, .int .u32 0, .int .u32 0, .int .u32 0, .int .u32 0, .int .u32 0, .int .u32 0, .int .u32 0, .int .u32 0, .int .u32 0, .int .u32 0, .int .u32 0, .int .u32 0, .int .u32 0, .int .u32 0, .int .u32 0, .int .u32 0, .int .u32 0, .int .u32 0, .int .u32 0, .int .u32 0, .int .u32 0, .int .u32 0, .int .u32 0, .int .u32 0, .int .u32 0, .int .u32 0, .int .u32 0, .int .u32 0, .int .u32 0, .int .u32 0, .int .u32 0, .int .u32 0, .int .u32 0, .int .u32 0, .int .u32 0, .int .u32 0, .int .u32 0, .int .u32 0, .int .u32 0, .int .u32 0, .int .u32 0, .int .u32 0, .int .u32 0] #[.int .u32 1116352408, .int .u32 1899447441, .int .u32 3049323471, .int .u32 3921009573, .int .u32 961987163, .int .u32 1508970993, .int .u32 2453635748, .int .u32 2870763221, .int .u32 3624381080, .int .u32 310598401, .int .u32 607225278, .int .u32 1426881987, .int .u32 1925078388, .int .u32 2162078206, .int .u32 2614888103, .int .u32 3248222580, .int .u32 3835390401, .int .u32 4022224774, .int .u32 264347078, .int .u32 604807628, .int .u32 770255983, .int .u32 1249150122, .int .u32 1555081692, .int .u32 1996064986, .int .u32 2554220882, .int .u32 2821834349, .int .u32 2952996808, .int .u32 3210313671, .int .u32 3336571891, .int .u32 3584528711, .int .u32 113926993, .int .u32 338241895, .int .u32 666307205, .int .u32 773529912, .int .u32 1294757372, .int .u32 1396182291, .int .u32 1695183700, .int .u32 1986661051, .int .u32 2177026350, .int .u32 2456956037, .int .u32 2730485921, .int .u32 2820302411, .int .u32 3259730800, .int .u32 3345764771, .int .u32 3516065817, .int .u32 3600352804, .int .u32 4094571909, .int .u32 275423344, .int .u32 430227734, .int .u32 506948616, .int .u32 659060556, .int .u32 883997877, .int .u32 958139571, .int .u32 1322822218, .int .u32 1537002063, .int .u32 1747873779, .int .u32 1955562222, .int .u32 2024104815, .int .u32 2227730452, .int .u32 2361852424, .int .u32 2428436474, .int .u32 2756734187, .int .u32 3204031479, .int .u32 3329325298] (by kernel_rfl) rfl (by kernel_rfl)); go_enter Tryz.func108, Tryz.ntmps108
 go_wp2_with (first | (refine wpList_store_row _ _ rfl _ _ 137 rfl _ _ rfl rfl hst.out ?_) | go_in)
 refine bodyPost_ret (v := Qqe Qc1) (Qi0 Tryz.results108 rfl (Qa9 _ _) Tryz.underlying137 (by kernel_rfl)) rfl ⟨rfl, (Below.refl _ _).alloc (Nat.le_refl _) _⟩
end Go.Proofs.YtopijobdblfhoaaGreat.Sa
end
section
namespace Go.Proofs.YtopijobdblfhoaaGreat.Sa
open Go.Proofs.YtopijobdblfhoaaGreat.Sm
open Go.RowKit Go.Proofs.YtopijobdblfhoaaGreatW.PrintWords Go.Proofs.YtopijobdblfhoaaGreatW.PrintLast Go.Proofs.YtopijobdblfhoaaGreatW.PrintMore

theorem ret_int {k : IntKind} {a b : Int} (h : a = b) : Ending.returned (.int k a) = .returned (.int k b) := by rw [h]
theorem Qde {k : Nat} (h : k ≤ 31) : 2 ^ k ≤ 2147483648 := Nat.pow_le_pow_right (by decide) h
theorem Qky {a : Nat} (h : a < 4294967296) (k : Nat) (h1 : 1 ≤ k) (h2 : k ≤ 31) : Qf2 (a : Int) k = ((a / 2 ^ k + (a % 2 ^ k) * 2 ^ (32 - k) : Nat) : Int) := by
 rw [Qpl ⟨by omega, by omega⟩ k h1 h2]; simp
theorem Qlu {a k j : Nat} (h1 : 1 ≤ k) (h2 : k ≤ 31) (hj : j ≤ 32 - k) : (a % 2 ^ k) * 2 ^ j < 4294967296 := by
 have hp : 2 ^ k * 2 ^ (32 - k) = 4294967296 := by rw [← Nat.pow_add, show k + (32 - k) = 32 by omega]
 have hm : a % 2 ^ k < 2 ^ k := Nat.mod_lt _ (Nat.two_pow_pos k); have hle : 2 ^ j ≤ 2 ^ (32 - k) := Nat.pow_le_pow_right (by decide) hj
 calc (a % 2 ^ k) * 2 ^ j < 2 ^ k * 2 ^ j := Nat.mul_lt_mul_of_pos_right hm (Nat.two_pow_pos _)
  _ ≤ 2 ^ k * 2 ^ (32 - k) := Nat.mul_le_mul_left _ hle
  _ = 4294967296 := hp
theorem Qm4 {a : Nat} (h : a < 4294967296) (k : Nat) (h1 : 1 ≤ k) (h2 : k ≤ 31) : a / 2 ^ k + (a % 2 ^ k) * 2 ^ (32 - k) < 4294967296 := by
 have := (rotI_U (a : Int) k).2; rw [Qky h k h1 h2] at this; omega
set_option maxHeartbeats 1000000 in
set_option maxRecDepth 100000 in
theorem rturn_n (a k : Nat) (ha : a < 4294967296) (h1 : 1 ≤ k) (h2 : k ≤ 31) (w : World) : Calls Tryz.prog 106 #[.int .u32 a, .int .i64 k] w fun e w' => e = .returned (.int .u32 (Qf2 a k)) ∧ w = w' := by
 rw [Qky ha k h1 h2]; go_enter Tryz.func106, Tryz.ntmps106; go_wp2
 go_loop [5, 6] (fun p i => ∃ j : Nat, j ≤ k ∧ i = .int .i64 j ∧ p = .int .u32 ((2 ^ j : Nat) : Int)) (fun _ i => k - (intOf i).toNat)
 case atStart => exact ⟨0, Nat.zero_le _, rfl, rfl⟩
 case round =>
  obtain ⟨j, hj, rfl, rfl⟩ := hrel
  by_cases hlt : j < k
  ·
   have hb := Qde (k := j + 1) (by omega); rw [Nat.pow_succ] at hb; obtain ⟨P, hP⟩ : ∃ P, P = 2 ^ j := ⟨_, rfl⟩; rw [← hP] at hb ⊢; have HP := Lib.hid hP; clear hP; go_wp2
   go_round
   case rel => exact ⟨j + 1, by omega, by go_num, by rw [Nat.pow_succ, ← HP.out]; go_num⟩
   case measure => simp [intOf]; omega
  ·
   obtain rfl : j = k := by omega
   clear hlt hj; have hb := Qde (k := j) h2; have hpos := Nat.two_pow_pos j; obtain ⟨P, hP⟩ : ∃ P, P = 2 ^ j := ⟨_, rfl⟩; have HS := Lib.hid (Qm4 ha j h1 h2); have HL := Lib.hid (fun i (hi : i ≤ 32 - j) => Qlu (a := a) h1 h2 hi); rw [← hP] at hb hpos HS HL ⊢; have EP := Lib.hid hP; clear hP; obtain ⟨L, hL⟩ : ∃ L, L = a % P := ⟨_, rfl⟩; rw [← hL] at HS HL; have hL2 : ((a : Int) % (P : Int)) = (L : Int) := by rw [hL]; simp
   have EL := Lib.hid hL; clear hL; go_wp2
   go_loop [7, 8] (fun q i => ∃ m : Nat, m ≤ 32 - j ∧ i = .int .i64 m ∧ q = .int .u32 ((L * 2 ^ m : Nat) : Int)) (fun _ i => (32 - j) - (intOf i).toNat)
   case atStart => exact ⟨0, Nat.zero_le _, rfl, by simp⟩
   case round =>
    obtain ⟨m, hm, rfl, rfl⟩ := hrel
    by_cases hlt : m < 32 - j
    ·
     have hb2 := HL.out (m + 1) (by omega); rw [Nat.pow_succ, ← Nat.mul_assoc] at hb2; obtain ⟨X, hX⟩ : ∃ X, X = L * 2 ^ m := ⟨_, rfl⟩; rw [← hX] at hb2 ⊢; have HX := Lib.hid hX; clear hX; go_wp2
     go_round
     case rel => exact ⟨m + 1, by omega, by go_num, by rw [Nat.pow_succ, ← Nat.mul_assoc, ← HX.out]; go_num⟩
     case measure => simp [intOf]; omega
    ·
     have em : 32 - j = m := by omega
     have hge : ¬ ((m : Int) < 32 - (j : Int)) := by omega
     rw [em] at HS; have hs := HS.out
     have hs2 : (a : Int) / (P : Int) + ((L * 2 ^ m : Nat) : Int) < 4294967296 := by
      have : (a : Int) / (P : Int) = ((a / P : Nat) : Int) := by simp
      rw [this]; omega
     have hs1 : 0 ≤ (a : Int) / (P : Int) := Int.ediv_nonneg (by omega) (by omega); obtain ⟨X, hX⟩ : ∃ X, X = L * 2 ^ m := ⟨_, rfl⟩; rw [← hX] at hs2 ⊢; have EX := Lib.hid hX; have EM := Lib.hid em; clear hX hs hlt hm em HL; go_wp2; go_ret; refine ⟨(ret_int ?_ : Ending.returned (.int .u32 ((a : Int) / (P : Int) + (X : Int))) = _), rfl⟩; rw [EX.out, EM.out, EL.out, EP.out]; simp
theorem Qi4 (x z : Int) (hx : U x) (h1 : 1 ≤ z) (h2 : z ≤ 31) (w : World) : Calls Tryz.prog 106 #[.int .u32 x, .int .i64 z] w fun e w' => e = .returned (.int .u32 (Qf2 x z.toNat)) ∧ w = w' := by
 obtain ⟨a, rfl⟩ := Int.eq_ofNat_of_zero_le hx.1; have e : z = ((z.toNat : Nat) : Int) := by omega
 have c := rturn_n a z.toNat (by have := hx.2; omega) (by omega) (by omega) w; rw [← e] at c; exact c
set_option maxHeartbeats 1000000 in
set_option maxRecDepth 100000 in
theorem rover_n (a k : Nat) (hk : k ≤ 31) (ha : a < 4294967296) (w : World) : Calls Tryz.prog 107 #[.int .u32 a, .int .i64 k] w fun e w' => e = .returned (.int .u32 ((a / 2 ^ k : Nat) : Int)) ∧ w = w' := by
 go_enter Tryz.func107, Tryz.ntmps107; go_wp2
 go_loop [0, 5] (fun p i => ∃ j : Nat, j ≤ k ∧ i = .int .i64 j ∧ p = .int .u32 ((a / 2 ^ j : Nat) : Int)) (fun _ i => k - (intOf i).toNat)
 case atStart => exact ⟨0, Nat.zero_le _, rfl, by simp⟩
 case round =>
  obtain ⟨j, hj, rfl, rfl⟩ := hrel
  by_cases hlt : j < k
  ·
   have hb : a / 2 ^ j < 4294967296 := Nat.lt_of_le_of_lt (Nat.div_le_self _ _) ha; have hd : a / 2 ^ (j + 1) = a / 2 ^ j / 2 := by rw [Nat.pow_succ, Nat.div_div_eq_div_mul]
   obtain ⟨X, hX⟩ : ∃ X, X = a / 2 ^ j := ⟨_, rfl⟩; rw [← hX] at hb hd ⊢; have HD := Lib.hid hd; clear hX hd; go_wp2
   go_round
   case rel => exact ⟨j + 1, by omega, by go_num, by rw [HD.out]; go_num⟩
   case measure => simp [intOf]; omega
  ·
   obtain rfl : j = k := by omega
   go_wp2; go_ret; exact ⟨rfl, rfl⟩
theorem rover_c (x z : Int) (hx : U x) (h1 : 1 ≤ z) (h2 : z ≤ 31) (w : World) : Calls Tryz.prog 107 #[.int .u32 x, .int .i64 z] w fun e w' => e = .returned (.int .u32 (x / 2 ^ z.toNat)) ∧ w = w' := by
 obtain ⟨a, rfl⟩ := Int.eq_ofNat_of_zero_le hx.1; have e : z = ((z.toNat : Nat) : Int) := by omega
 have c := rover_n a z.toNat (by omega) (by have := hx.2; omega) w; rw [← e] at c
 simpa using c
end Go.Proofs.YtopijobdblfhoaaGreat.Sa
end
section
namespace Go.Proofs.YtopijobdblfhoaaGreat.Sa
open Go.Proofs.YtopijobdblfhoaaGreat.Sm
open Go.RowKit Go.Proofs.YtopijobdblfhoaaGreatW.PrintWords Go.Proofs.YtopijobdblfhoaaGreatW.PrintLast Go.Proofs.YtopijobdblfhoaaGreatW.PrintMore

def lenOf : Value → Nat
 | .slice _ n _ => n
 | _ => 0
theorem Qos (A : Option Addr) (n c : Nat) : lenOf (.slice A n c) = n := rfl
def tT (n k : Nat) : List Int := (List.range k).map fun i => ((n * 8 / 256 ^ (k - 1 - i) % 256 : Nat) : Int)
theorem tT_succ (n k : Nat) : tT n (k + 1) = [((n * 8 / 256 ^ k % 256 : Nat) : Int)] ++ tT n k := by
 unfold tT; rw [List.range_succ_eq_map]; simp only [List.map_cons, List.map_map, Nat.add_sub_cancel, Nat.sub_zero, List.singleton_append]; congr 1; apply List.map_congr_left; intro i hi; have e : k - (i + 1) = k - 1 - i := by omega
 simp only [Function.comp, Nat.succ_eq_add_one, e]
theorem Qhx (n k : Nat) : (tT n k).length = k := by simp [tT]
theorem Qpo (n : Nat) : tT n 8 = (Qep n).map fun b => ((b.toNat : Nat) : Int) := by
 unfold tT Qep; rw [List.map_map]; apply List.map_congr_left; intro i _; simp only [Function.comp, UInt8.toNat_ofNat']
def Qld (s : ByteArray) (j : Nat) : List Int := bytesOf s ++ [128] ++ List.replicate j 0
theorem Qc8 (s : ByteArray) (j : Nat) : (Qld s j).length = s.size + 1 + j := by simp [Qld, bytesOf_length]; omega
theorem Qly (s : ByteArray) (j : Nat) : Qld s j ++ [0] = Qld s (j + 1) := by
 unfold Qld; rw [List.replicate_succ', List.append_assoc]
theorem Qf1 (l : List Int) : (strOfNums l).size = l.length := by
 show (l.map _).toArray.size = _; simp
theorem pad_str (s : ByteArray) : strOfNums (Qld s ((119 - s.size % 64) % 64)) ++ strOfNums (tT s.size 8) = Qlk s := by
 have e : Qld s ((119 - s.size % 64) % 64) = (s.data.toList ++ 128 :: List.replicate ((119 - s.size % 64) % 64) 0).map fun b : UInt8 => ((b.toNat : Nat) : Int) := by
  unfold Qld bytesOf; simp
 rw [e, Qpo, Qdq, Qdq]; unfold Qlk padL; apply ByteArray.ext; simp

set_option maxHeartbeats 8000000 in
set_option maxRecDepth 100000 in
theorem rpad_c (s : ByteArray) (hs : s.size ≤ 140737488351232) (w : World) :
  Calls Tryz.prog 92 #[.string s] w fun e w' => e = .returned (.string (Qlk s)) ∧ Below w.heap.size w w' := by
 have kb := fun W => Qez (P := Tryz.prog) 9 124 5 Tryz.underlying9 Tryz.underlying124 Tryz.underlying5 s W
 obtain ⟨z, hz⟩ : ∃ z, z = (119 - s.size % 64) % 64 := ⟨_, rfl⟩; have HZ := Lib.hid hz; have hz63 : z ≤ 63 := by omega
 clear hz; go_enter Tryz.func92, Tryz.ntmps92
 go_wp2_with (at_builtin; refine Qdm (base := w.heap.size) rfl _ _ rfl rfl rfl (BB.of_bytes s (Nat.le_refl _) (by omega)) ?h1 ?h2 ?_)
 case h1 => rw [bytesOf_length]; omega
 case h2 => rw [Lib.bytesWorld_size]; omega
 intro v1 w1 hbb hg; have HBB := Lib.hid hbb; have HG := Lib.hid hg; have HB1 := Lib.hid (show Below w.heap.size w w1 from (Qe9 (Below.refl w.heap.size w) (Nat.le_refl _) 5 s).grown hg (by rw [Lib.bytesWorld_size]; omega) (fun k hk => by simp only [Value.ownBlock, Option.some.injEq] at hk; omega)); clear hbb hg kb
 go_wp2_with fail
 go_loopw [3] (fun v wr => ∃ (j : Nat) (A : Option Addr) (c : Nat), j ≤ z ∧ v = .slice A (s.size + 1 + j) c ∧ Hid (BB w.heap.size wr (.slice A (s.size + 1 + j) c) (Qld s j)) ∧ Hid (Below w.heap.size w wr)) (fun v _ => s.size + 1 + z - lenOf v)
 case atStart =>
  obtain ⟨A, c, hv, _⟩ := HBB.out.reads; have e : (bytesOf s ++ [128]).length = s.size + 1 + 0 := by simp [bytesOf_length]
  rw [e] at hv; refine ⟨0, A, c, Nat.zero_le _, hv, Lib.hid ?_, HB1⟩; rw [← hv]; have := HBB.out
  simpa [Qld] using this
 case round =>
  obtain ⟨j, A, c, hj, rfl, HBB2, HB⟩ := hrel; clear HBB HG HB1
  by_cases hlt : j < z
  ·
   have hne : (((s.size : Int) + 1 + (j : Int)) % 64 != 56) = true := by have := HZ.out; rw [bne_iff_ne]; omega
   go_wp2_with (at_builtin; refine Qdm (base := w.heap.size) rfl _ _ rfl rfl rfl HBB2.out ?h3 ?h4 ?_)
   case h3 => rw [Qc8]; omega
   case h4 => exact HB.out.size
   intro v2 w2 hbb hg; rw [Qly] at hbb; obtain ⟨A2, c2, hv, _⟩ := hbb.reads; rw [Qc8] at hv; have HB2 := Lib.hid (HB.out.grown hg HB.out.size (fun k hk => HBB2.out.base k hk)); have HBB3 := Lib.hid hbb; clear hbb hg HBB2 HB; have HV := Lib.hid hv; clear hv; go_wp2
   go_roundw
   case rel => exact ⟨j + 1, A2, c2, by omega, HV.out, by rw [← HV.out]; exact HBB3, HB2⟩
   case measure => rw [HV.out]; simp only [Qos, Array.getD_eq_getD_getElem?, List.getElem?_toArray, List.getElem?_cons_succ, List.getElem?_cons_zero, Option.getD_some]; omega
  ·
   obtain rfl : j = z := by omega
   have hne : (((s.size : Int) + 1 + (j : Int)) % 64 != 56) = false := by have := HZ.out; rw [bne_eq_false_iff_eq]; omega
   clear hlt hj; obtain ⟨w3, rfl⟩ : ∃ w3 : World, w3 = wr := ⟨_, rfl⟩
   go_wp2_with fail
   clear hne
   go_loopw [4, 5, 6] (fun nv tv i wr => ∃ k : Nat, k ≤ 8 ∧ i = .int .i64 k ∧ nv = .int .u64 ((s.size * 8 / 256 ^ k : Nat) : Int) ∧ Hid (wr.ownsRow w.heap.size 5 1 tv (tT s.size k).length (nums .u8 (tT s.size k))) ∧ Hid (BB w.heap.size wr (.slice A (s.size + 1 + j) c) (Qld s j)) ∧ Hid (Below w.heap.size w wr)) (fun _ _ i _ => 8 - (intOf i).toNat)
   case atStart => exact ⟨0, by omega, rfl, by simp, Lib.hid (Qg2 _ _ _ _), HBB2, HB⟩
   case round =>
    clear HBB2 HB; obtain ⟨k, hk, rfl, rfl, HO, HBB2, HB⟩ := hrel
    by_cases hlt : k < 8
    ·
     have hx : s.size * 8 / 256 ^ k < 18446744073709551616 := Nat.lt_of_le_of_lt (Nat.div_le_self _ _) (by omega); have hd : s.size * 8 / 256 ^ (k + 1) = s.size * 8 / 256 ^ k / 256 := by rw [Nat.pow_succ, Nat.div_div_eq_div_mul]
     obtain ⟨X, hX⟩ : ∃ X, X = s.size * 8 / 256 ^ k := ⟨_, rfl⟩; rw [← hX] at hx hd ⊢; have hts := tT_succ s.size k; rw [← hX] at hts; have HD := Lib.hid hd; have HT := Lib.hid hts; clear hX hd hts; obtain ⟨At, ct, htv⟩ := Qm5 HO.out; rw [htv] at HO ⊢; have HR := Lib.hid ((Qli HO.out).allocS (.cells #[.int .u8 ((X : Int) % 256)] 5)); have HO1 := Lib.hid (own_lit wr w.heap.size 5 .u8 [(X : Int) % 256] HB.out.size (by show 1 ≤ _; decide)); have HB1 := Lib.hid (HB.out.alloc HB.out.size (.cells #[.int .u8 ((X : Int) % 256)] 5)); have HL := Lib.hid (Qhx s.size k); clear htv
     go_wp2_with (at_builtin; refine Qef (w0 := w) w.heap.size rfl (.tmp 30) (.tmp 31) 124 5 .u8 1 rfl Tryz.underlying124 Qgr (by decide) (.slice (some ⟨wr.heap.size, 0, none⟩) 1 1) [(X : Int) % 256] (tT s.size k) At (tT s.size k).length ct rfl rfl HO1.out HR.out HB1.out ?h5 ?h6 ?_)
     case h5 => have := HB.out.size; simp; omega
     case h6 => rw [HL.out]; simp; omega
     intro v2 w2 hown hbel hg _
     have HBB3 := Lib.hid ((HBB2.out.alloc (.cells #[.int .u8 ((X : Int) % 256)] 5)).other hg (by
      obtain ⟨g, cap, he, _, hlt', _⟩ := HBB2.out; rw [he]; simp only [Value.ownBlock, ne_eq, Option.some.injEq]
      omega))
     have HO2 := Lib.hid hown; have HB2 := Lib.hid hbel; clear hown hbel hg HO1 HR HB1 HO HBB2 HB
     go_wp2_with fail
     go_roundw
     case rel =>
      have e : [(X : Int) % 256] ++ tT s.size k = tT s.size (k + 1) := by rw [HT.out]; simp
      have HO3 : w2.ownsRow w.heap.size 5 1 v2 (tT s.size (k + 1)).length (nums .u8 (tT s.size (k + 1))) := by rw [← e]; exact HO2.out
      exact ⟨k + 1, by omega, by go_num, by rw [HD.out]; go_num, Lib.hid HO3, HBB3, HB2⟩
     case measure => simp [intOf]; omega
    ·
     obtain rfl : k = 8 := by omega
     have h1 := HBB2.out.str; have h2 := Qfz (P := Tryz.prog) (src := 124) (dst := 9) Tryz.underlying124 Tryz.underlying5 Tryz.underlying9 HO.out; have l1 : (strOfNums (Qld s j)).size = s.size + 1 + j := by rw [Qf1, Qc8]
     have l2 : (strOfNums (tT s.size 8)).size = 8 := by rw [Qf1, Qhx]
     obtain ⟨S1, e1⟩ : ∃ S, S = strOfNums (Qld s j) := ⟨_, rfl⟩; obtain ⟨S2, e2⟩ : ∃ S, S = strOfNums (tT s.size 8) := ⟨_, rfl⟩; rw [← e1] at h1 l1; rw [← e2] at h2 l2; have E1 := Lib.hid e1; have E2 := Lib.hid e2; have hov : ¬ 9223372036854775807 < S1.size + S2.size := by omega
     clear e1 e2 l1 l2 hlt hk
     go_wp2_with fail
     go_ret; refine ⟨?_, HB.out⟩; show Ending.returned (.string (S1 ++ S2)) = _; rw [E1.out, E2.out, HZ.out, pad_str]
end Go.Proofs.YtopijobdblfhoaaGreat.Sa
end
section
namespace Go.Proofs.YtopijobdblfhoaaGreat.Sa
open Go.Proofs.YtopijobdblfhoaaGreat.Sm
open Go.RowKit Go.Proofs.YtopijobdblfhoaaGreatW.PrintWords Go.Proofs.YtopijobdblfhoaaGreatW.PrintLast Go.Proofs.YtopijobdblfhoaaGreatW.PrintMore

section
variable {P : Program} {ops : Array Oper} {o : Oper} {a : Act} {Kc : Act → World → Prop} {Q' : Exit → Act → World → Prop}
theorem Qcq {w0 W : World} (base : Nat) (hw : Region.wanted o (yielded ops a.tmps) = true) (s x : Operand) (t e : TypeId) (k : IntKind) (bytes : Nat)
  (ho : o.op = .call { callee := .builtin .append, args := #[s, x], argTypes := #[t, t] })
  (ht : P.underlying t = some (.slice e)) (hinfo : (P.info? e).map (fun i => (i.zero, i.size, i.bytes)) = some (some (.int k 0), 1, bytes)) (hb0 : 0 < bytes)
  (v : Value) (xs : List Int) (y : Int) (hs : a.eval s = v) (hx : a.eval x = .slice (some ⟨W.heap.size, 0, none⟩) 1 1)
  (HO : W.ownsRow base e 1 v xs.length (nums k xs)) (HB : Below base w0 W) (hbase : base ≤ W.heap.size) (hl : (xs.length + 1) * bytes ≤ 140737488355328)
  (h : ∀ v1 w1, w1.ownsRow base e 1 v1 (xs ++ [y]).length (nums k (xs ++ [y])) → Below base w0 w1 → W.grownBy w1 v.ownBlock → Kc (a.put o.dst v1) w1) :
  if Region.wanted o (yielded ops a.tmps) = true then Oper.wp P o a (W.alloc (.cells #[.int k y] e)) Kc Q' else Kc (a.put o.dst undef) (W.alloc (.cells #[.int k y] e)) := by
 obtain ⟨i0, hi, hzz⟩ := Option.map_eq_some_iff.1 hinfo; simp only [Prod.mk.injEq] at hzz; obtain ⟨hz0, hz1, hz2⟩ := hzz; have hlen : xs.length + 1 ≤ 140737488355328 := Nat.le_trans (Nat.le_mul_of_pos_right _ hb0) hl
 obtain ⟨v1, w1, hr, h2, h3, _, h5⟩ := run_append_own_at (P := P) (W.alloc (.cells #[.int k y] e)) base t o.type e i0 (.int k 0) 1 bytes ht hi hz0 hz1 hz2 rfl (by omega) v xs.length (nums k xs) (HO.alloc _) ⟨W.heap.size, 0, none⟩ 1 1 [.int k y] rfl
  (World.news_of_block (cs := #[.int k y]) (t := e) (fr := (0, 0)) (Go.heap_alloc_new W _)) (by simp [Value.oneCell']) (by simp only [maxLen]; omega) hl (by simp; omega)
 rw [if_pos hw]; unfold Oper.wp execOp; simp only [ho, resolve, invoke, builtin, Sem.run_bind, Sem.run_pure, Result.andThen_ok, List.map_toArray, List.map_cons, List.map_nil, hs, hx, hr]; exact h v1 w1 (by simpa [nums] using h2) ((HB.alloc hbase _).grown h3 (by simp; omega) (Qbr HO)) (World.grownBy.trans (World.grownBy_alloc W _ _) h3)
end
structure RbW (w : World) (h : St) (w' : World) : Prop where
 b0 : w'.heap[w.heap.size]? = some (.cells (Qbk h.list) 120 (0, 0))
 b1 : w'.heap[w.heap.size + 1]? = some (.cells (Qbk [0, 0, 0, 0, 0, 0, 0, 0]) 120 (0, 0))
 bel : Below w.heap.size w w'
theorem RbW.drew {w w' : World} {h : St} (H : RbW w h w') : RbW w h w'.drew := ⟨H.b0, H.b1, Qcd H.bel⟩
theorem RbW.next {w W w1 : World} {h : St} {v : Value} {n : Nat} {xs : List Value} (H : RbW w h W) (ho : W.ownsRow w.heap.size 119 1 v n xs) (hg : W.grownBy w1 v.ownBlock) (hb : Below w.heap.size w w1) : RbW w h w1 :=
 ⟨Qcy H.b0 hg (Qki ho H.b0 (by decide)), Qcy H.b1 hg (Qki ho H.b1 (by decide)), hb⟩
theorem Qn8 (b : ByteArray) (k : Nat) : IntKind.u32.wrap (IntKind.u32.wrap (IntKind.u32.wrap (IntKind.u32.wrap (IntKind.u32.wrap (byt b (4 * k)) * 16777216) + IntKind.u32.wrap (IntKind.u32.wrap (byt b (4 * k + 1)) * 65536)) + IntKind.u32.wrap (IntKind.u32.wrap (byt b (4 * k + 2)) * 256)) + IntKind.u32.wrap (byt b (4 * k + 3))) = be b k := by
 have h0 := Qbz b (4 * k); have h1 := Qbz b (4 * k + 1); have h2 := Qbz b (4 * k + 2); have h3 := Qbz b (4 * k + 3); simp only [IntKind.wrap_u32]; unfold be; omega
theorem Qlb (l : List Int) (m : Nat) (X15 X2 X16 X7 : Int) (h15 : X15 = l.getD (m - 15) 0) (h2 : X2 = l.getD (m - 2) 0) (h16 : X16 = l.getD (m - 16) 0) (h7 : X7 = l.getD (m - 7) 0) :
  IntKind.u32.wrap (IntKind.u32.wrap (IntKind.u32.wrap (X16 + bits BinOp.xor IntKind.u32 (bits BinOp.xor IntKind.u32 (Qf2 X15 7) (Qf2 X15 18)) (X15 / 8)) + X7) + bits BinOp.xor IntKind.u32 (bits BinOp.xor IntKind.u32 (Qf2 X2 17) (Qf2 X2 19)) (X2 / 1024)) = Qo6 l m := by
 subst h15 h2 h16 h7; rfl
theorem Qd7 {w : World} {a : Addr} {v : Value} (h : w.cell? a = some v) (o : Obj) : (w.alloc o).cell? a = some v := Qcg ((Below.refl _ _).alloc (Nat.le_refl _) _) h
theorem Qhf (g n c i : Nat) (h : i < n) (z : Int) (hz : z = i) (w : World) : (Instr.indexAt 135 (.slice (some ⟨g, 0, none⟩) n c) (.int .i64 z)).run Tryz.prog w = .ok (.pointer (some ⟨g, i, none⟩)) w := by
 subst hz; rw [run_indexAt_slice w 135 ⟨g, 0, none⟩ n c .i64 i (by kernel_rfl), if_pos ⟨by omega, by omega⟩]; have hs : (sizeOf (Tryz.prog.elem 135)).run Tryz.prog w = .ok 1 w := by kernel_rfl
 rw [hs]; simp [Result.andThen, add_plain]
theorem Qpu (h st : St) (b : ByteArray) (e : st = rnds h Qc1 (Qnl b) 64) : #[Value.int .u32 ((h.a + st.a) % 4294967296), .int .u32 ((h.b + st.b) % 4294967296), .int .u32 ((h.c + st.c) % 4294967296), .int .u32 ((h.d + st.d) % 4294967296), .int .u32 ((h.e + st.e) % 4294967296), .int .u32 ((h.f + st.f) % 4294967296), .int .u32 ((h.g + st.g) % 4294967296), .int .u32 ((h.h + st.h) % 4294967296)] = Qbk (Qpa h b).list := by
 unfold Qpa; rw [← e]; simp only [Qbk, Qo0, St.list, IntKind.wrap_u32, List.map_cons, List.map_nil, Int.add_comm]
theorem Qko : (Tryz.prog.info? 119).map (fun i => (i.zero, i.size, i.bytes)) = some (some (.int .u32 0), 1, 4) := by kernel_rfl

set_option maxHeartbeats 8000000 in
set_option maxRecDepth 100000 in
theorem Qlo (h : St) (hU : h.U) (b : ByteArray) (hb : b.size = 64) (w : World) :
  Calls Tryz.prog 93 #[Qqe h.list, .string b] w fun e w' => e = .returned (.tuple #[Qqe (Qpa h b).list, .int .i64 0]) ∧ Below w.heap.size w w' := by
 have HU := Lib.hid hU; have HS := Lib.hid hb; have hne : ((b.size : Int) != 64) = false := by rw [hb]; rfl
 clear hU hb; show Calls _ _ #[.agg (Qbk h.list), .string b] _ _; obtain ⟨hv, ehv⟩ : ∃ v, v = Qbk h.list := ⟨_, rfl⟩; rw [← ehv]; have EH := Lib.hid ehv; clear ehv; go_enter Tryz.func93, Tryz.ntmps93
 go_wp2_with fail
 clear hne
 go_loopw [6, 7] (fun v i wr => ∃ k : Nat, k ≤ 16 ∧ i = .int .i64 k ∧ Hid (wr.ownsRow w.heap.size 119 1 v (w16 b k).length (nums .u32 (w16 b k))) ∧ Hid (RbW w h wr)) (fun _ i _ => 16 - (intOf i).toNat)
 case atStart =>
  refine ⟨0, by omega, rfl, Lib.hid (Qg2 _ _ _ _), Lib.hid ?_⟩; have e1 := EH.out; subst e1; exact ⟨Qah (Qml _ _ rfl) _, Qml _ _ (by simp), ((Below.refl _ _).alloc (Nat.le_refl _) _).alloc (by simp) _⟩
 case round =>
  obtain ⟨k, hk, rfl, HO, HW⟩ := hrel
  by_cases hlt : k < 16
  ·
   -- BEGIN A
   have hs := HS.out; have g0 : 4 * k < b.size := by omega
   have g1 : 4 * k + 1 < b.size := by omega
   have g2 : 4 * k + 2 < b.size := by omega
   have g3 : 4 * k + 3 < b.size := by omega
   clear hs; have q0 : IntKind.i64.wrap (4 * (k : Int)) = 4 * (k : Int) := (Qay _).trans (Go.IntWalk.wrap64_in _ (by omega)); have q1 : IntKind.i64.wrap (4 * (k : Int) + 1) = 4 * (k : Int) + 1 := (Qay _).trans (Go.IntWalk.wrap64_in _ (by omega)); have q2 : IntKind.i64.wrap (4 * (k : Int) + 2) = 4 * (k : Int) + 2 := (Qay _).trans (Go.IntWalk.wrap64_in _ (by omega)); have q3 : IntKind.i64.wrap (4 * (k : Int) + 3) = 4 * (k : Int) + 3 := (Qay _).trans (Go.IntWalk.wrap64_in _ (by omega))
   have r0 := fun w => Qgk b (4 * k) g0 (4 * (k : Int)) (by omega) w
   have r1 := fun w => Qgk b (4 * k + 1) g1 (4 * (k : Int) + 1) (by omega) w
   have r2 := fun w => Qgk b (4 * k + 2) g2 (4 * (k : Int) + 2) (by omega) w
   have r3 := fun w => Qgk b (4 * k + 3) g3 (4 * (k : Int) + 3) (by omega) w
   clear g0 g1 g2 g3
   go_wp2_with fail
   have HO2 := Lib.hid (show wr.drew.ownsRow _ _ _ _ _ _ from HO.out); have HW2 := Lib.hid HW.out.drew; have HL := Lib.hid (Qd3 b k); clear HO HW; refine Qcw (n := 33) (S := fun w' : World => True) (ds := []) #[false, false, false, false, false, false, false, false, false, false, false, false, false, false, false, false, false, false, false, false, false, false, false, false, false, false, false, false, false, false, false, false, false] (by kernel_rfl) rfl rfl trivial (fun hHeld => ?_); generalize wr.drew = w2 at HO2 HW2 ⊢; refine pz_ 0 (some 36) 1 (h := ?_); refine pz_ 1 (some 37) 3 (h := ?_); refine pz_ 2 (some 38) 7 (h := ?_); refine pz_ 3 (some 39) 15 (h := ?_); refine pz_ 4 (some 40) 31 (h := ?_); refine pz_ 5 (some 41) 63 (h := ?_); refine pz_ 6 (some 42) 127 (h := ?_); refine pz_ 7 (some 43) 255 (h := ?_); refine pz_ 8 (some 44) 511 (h := ?_); refine pz_ 9 (some 45) 1023 (h := ?_); refine pz_ 10 (some 46) 2047 (h := ?_); refine pz_ 11 (some 47) 4095 (h := ?_); refine pz_ 12 (some 48) 8191 (h := ?_); refine pz_ 13 (some 49) 16383 (h := ?_); refine pz_ 14 (some 50) 32767 (h := ?_); refine pz_ 15 (some 51) 65535 (h := ?_); refine pz_ 16 (some 52) 131071 (h := ?_); refine pz_ 17 (some 53) 262143 (h := ?_); refine pz_ 18 (some 54) 524287 (h := ?_); refine pz_ 19 (some 55) 1048575 (h := ?_); refine pz_ 20 (some 56) 2097151 (h := ?_); refine pz_ 21 (some 57) 4194303 (h := ?_); refine pz_ 22 (some 58) 8388607 (h := ?_); refine pz_ 23 (some 59) 16777215 (h := ?_); refine pz_ 24 (some 60) 33554431 (h := ?_); refine pz_ 25 (some 61) 67108863 (h := ?_); refine pz_ 26 (some 62) 134217727 (h := ?_); refine pz_ 27 (some 63) 268435455 (h := ?_); refine pz_ 28 (some 64) 536870911 (h := ?_); refine pz_ 29 (some 65) 1073741823 (h := ?_); refine Qjg (i := 30) (N := some 66) #[true, true, true, true, true, true, true, true, true, true, true, true, true, true, true, true, true, true, true, true, true, true, true, true, true, true, true, true, true, true, true, false, false] rfl rfl (by kernel_rfl) (by decide) (fun K hK => ?_); refine Qj1 (v := ?_) (w1 := ?_) (by rfl) rfl ?_ ?_; rotate_left; rotate_left
   ·
    go_simp
    first | rfl | (constructor <;> rfl)
   refine hK.out _ _ trivial (fun hHeld => ?_); clear hK K; refine Qbb (a' := ?_) ?_ ?_; rotate_left
   ·
    show Act.put _ (some 66) _ = _; simp only [Act.put, List.setIfInBounds_toArray, List.set_cons_zero, List.set_cons_succ, Qay, Qa3]; rfl
   refine Qjg (i := 31) (N := some 67) #[true, true, true, true, true, true, true, true, true, true, true, true, true, true, true, true, true, true, true, true, true, true, true, true, true, true, true, true, true, true, true, true, false] rfl rfl (by kernel_rfl) (by decide) (fun K hK => ?_); refine Qcq (w0 := w) w.heap.size (by rfl) (.tmp 36) (.tmp 66) 135 119 .u32 4 rfl Tryz.underlying135 Qko (by decide) _ (w16 b k) _ rfl rfl HO2.out HW2.out.bel HW2.out.bel.size (by rw [HL.out]; omega) ?_; intro v1 w3 hown hbel hg; have HO3 := Lib.hid hown; have HW3 := Lib.hid (HW2.out.next HO2.out hg hbel); clear hown hbel hg HO2 HW2; refine hK.out _ _ trivial (fun hHeld => ?_); clear hK K; refine Qbb (a' := ?_) ?_ ?_; rotate_left
   ·
    show Act.put _ (some 67) _ = _; simp only [Act.put, List.setIfInBounds_toArray, List.set_cons_zero, List.set_cons_succ, Qay, Qa3]; rfl
   refine pz_ 32 (some 6) 8589934591 (h := ?_); refine Qbt (by kernel_rfl) ?_; rw [Qn8, ← Qod] at HO3
   go_wp2_with fail
   go_roundw
   case rel => exact ⟨k + 1, by omega, by go_num, HO3, HW3⟩
   case measure => simp [intOf]; omega
   -- END A
  ·
   obtain rfl : k = 16 := by omega
   clear hlt hk; obtain ⟨w1, rfl⟩ : ∃ w1 : World, w1 = wr := ⟨_, rfl⟩
   go_wp2_with fail
   go_loopw [6, 8] (fun v i wr => ∃ m : Nat, 16 ≤ m ∧ m ≤ 64 ∧ i = .int .i64 m ∧ Hid (wr.ownsRow w.heap.size 119 1 v (Qca (w16 b 16) (m - 16)).length (nums .u32 (Qca (w16 b 16) (m - 16)))) ∧ Hid (RbW w h wr)) (fun _ i _ => 64 - (intOf i).toNat)
   case atStart => exact ⟨16, by omega, by omega, rfl, HO, HW⟩
   case round =>
    clear HO HW; obtain ⟨m, hm1, hm2, rfl, HO, HW⟩ := hrel; have hlen : (Qca (w16 b 16) (m - 16)).length = m := by rw [Qd8, Qd3]; omega
    have hU : ∀ x ∈ Qca (w16 b 16) (m - 16), U x := sched_U (w16_U b 16) _; obtain ⟨g, cap, hv, hgb, hgl⟩ := HO.out.form (by omega); rw [hv, hlen] at HO; rw [hv]; rw [hlen]; have HL := Lib.hid hlen
    by_cases hlt : m < 64
    ·
     -- BEGIN B
     have cc : ∀ j, j < m → wr.cell? ⟨g, j, none⟩ = some (.int .u32 ((Qca (w16 b 16) (m - 16)).getD j 0)) := fun j hj => by
      have := (own_at HO.out (j : Int) (by omega) (by omega)).1
      simpa [rd] using this
     obtain ⟨X15, e15⟩ : ∃ X, X = (Qca (w16 b 16) (m - 16)).getD (m - 15) 0 := ⟨_, rfl⟩; obtain ⟨X2, e2⟩ : ∃ X, X = (Qca (w16 b 16) (m - 16)).getD (m - 2) 0 := ⟨_, rfl⟩; obtain ⟨X16, e16⟩ : ∃ X, X = (Qca (w16 b 16) (m - 16)).getD (m - 16) 0 := ⟨_, rfl⟩; obtain ⟨X7, e7⟩ : ∃ X, X = (Qca (w16 b 16) (m - 16)).getD (m - 7) 0 := ⟨_, rfl⟩; have c15 := cc (m - 15) (by omega); have c2 := cc (m - 2) (by omega); have c16 := cc (m - 16) (by omega); have c7 := cc (m - 7) (by omega); rw [← e15] at c15; rw [← e2] at c2; rw [← e16] at c16; rw [← e7] at c7; have u15 : U X15 := by rw [e15]; exact Qmy hU _
     have u2 : U X2 := by rw [e2]; exact Qmy hU _
     have E15 := Lib.hid e15; have E2 := Lib.hid e2; have E16 := Lib.hid e16; have E7 := Lib.hid e7; clear e15 e2 e16 e7 cc hlen hU hv; have q16 : IntKind.i64.wrap ((m : Int) - 16) = (m : Int) - 16 := (Qay _).trans (Go.IntWalk.wrap64_in _ (by omega)); have q7 : IntKind.i64.wrap ((m : Int) - 7) = (m : Int) - 7 := (Qay _).trans (Go.IntWalk.wrap64_in _ (by omega))
     have r15 := fun w' => Qhf g m cap (m - 15) (by omega) ((m : Int) - 15) (by omega) w'
     have r2 := fun w' => Qhf g m cap (m - 2) (by omega) ((m : Int) - 2) (by omega) w'
     have r16 := fun w' => Qhf g m cap (m - 16) (by omega) ((m : Int) - 16) (by omega) w'
     have r7 := fun w' => Qhf g m cap (m - 7) (by omega) ((m : Int) - 7) (by omega) w'
     go_wp2_with (first | (go_at_call 106; refine (Qi4 _ _ (by assumption) (by decide) (by decide) _).mono ?_; rintro e w4 ⟨rfl, rfl⟩) | (go_at_call 107; refine (rover_c _ _ (by assumption) (by decide) (by decide) _).mono ?_; rintro e w4 ⟨rfl, rfl⟩))
     clear c15 c2 r15 r2 u15 u2; refine Qcw (n := 19) (S := fun w' : World => w'.cell? ⟨g, m - 16, none⟩ = some (.int .u32 X16) ∧ w'.cell? ⟨g, m - 7, none⟩ = some (.int .u32 X7)) (ds := [17]) #[false, false, false, false, false, false, false, false, false, false, false, false, false, false, false, false, false, false, false] (by kernel_rfl) rfl rfl ⟨c16, c7⟩ (fun hHeld => ?_); have HO2 := Lib.hid (show wr.drew.ownsRow _ _ _ _ _ _ from HO.out); have HW2 := Lib.hid HW.out.drew; have b16 : wr.drew.cell? ⟨g, m - 16, none⟩ = some (.int .u32 X16) := c16; have b7 : wr.drew.cell? ⟨g, m - 7, none⟩ = some (.int .u32 X7) := c7; clear HO HW c16 c7; generalize wr.drew = w2 at HO2 HW2 hHeld b16 b7 ⊢; refine pz_ 0 (some 98) 1 (h := ?_); refine pz_ 1 (some 99) 3 (h := ?_); refine pz_ 2 (some 100) 7 (h := ?_); refine pz_ 3 (some 101) 15 (h := ?_); refine pz_ 4 (some 102) 31 (h := ?_); refine tz_ 5 (some 103) 63 hHeld (h := ?_); refine pz_ 6 (some 104) 127 (h := ?_); refine pz_ 7 (some 105) 255 (h := ?_); refine pz_ 8 (some 106) 511 (h := ?_); refine pz_ 9 (some 107) 1023 (h := ?_); refine pz_ 10 (some 108) 2047 (h := ?_); refine pz_ 11 (some 109) 4095 (h := ?_); refine tz_ 12 (some 110) 8191 hHeld (h := ?_); refine pz_ 13 (some 111) 16383 (h := ?_); refine pz_ 14 (some 112) 32767 (h := ?_); refine pz_ 15 (some 113) 65535 (h := ?_); refine Qjg (i := 16) (N := some 114) #[true, true, true, true, true, true, true, true, true, true, true, true, true, true, true, true, true, false, false] rfl rfl (by kernel_rfl) (by decide) (fun K hK => ?_); refine Qj1 (v := ?_) (w1 := ?_) (by rfl) rfl ?_ ?_; rotate_left; rotate_left
     ·
      go_simp
      first | rfl | (constructor <;> rfl)
     refine hK.out _ _ ⟨Qd7 b16 _, Qd7 b7 _⟩ (fun hHeld => ?_); clear hK K; refine Qbb (a' := ?_) ?_ ?_; rotate_left
     ·
      show Act.put _ (some 114) _ = _; simp only [Act.put, List.setIfInBounds_toArray, List.set_cons_zero, List.set_cons_succ, Qay, Qa3]; rfl
     refine Qe2 (i := 17) (N := some 115) #[true, true, true, true, true, true, true, true, true, true, true, true, true, true, true, true, true, true, false] rfl rfl (by kernel_rfl) (by decide) (fun K hK => ?_); refine Qcq (w0 := w) w.heap.size (by rfl) (.tmp 98) (.tmp 114) 135 119 .u32 4 rfl Tryz.underlying135 Qko (by decide) (.slice (some ⟨g, 0, none⟩) m cap) (Qca (w16 b 16) (m - 16)) _ rfl rfl (by rw [HL.out]; exact HO2.out) HW2.out.bel HW2.out.bel.size (by rw [HL.out]; omega) ?_; intro v1 w3 hown hbel hg; have HO3 := Lib.hid hown; have HW3 := Lib.hid (HW2.out.next HO2.out hg hbel); clear hown hbel hg HO2 HW2; refine hK.out _ _ ?_; clear hK K; refine Qbb (a' := ?_) ?_ ?_; rotate_left
     ·
      show Act.put _ (some 115) _ = _; simp only [Act.put, List.setIfInBounds_toArray, List.set_cons_zero, List.set_cons_succ, Qay, Qa3]; rfl
     refine pz_ 18 (some 6) 524287 (h := ?_); refine Qbt (by kernel_rfl) ?_
     go_wp2_with fail
     go_roundw
     case rel =>
      have e : Qca (w16 b 16) (m + 1 - 16) = Qca (w16 b 16) (m - 16) ++ [Qo6 (Qca (w16 b 16) (m - 16)) m] := by
       rw [show m + 1 - 16 = (m - 16) + 1 by omega, Qca, show 16 + (m - 16) = m by omega]
      (repeat apply Exists.intro)
      refine ⟨⟨m + 1, by omega, by omega, by go_num, Lib.hid ?_, HW3⟩, rfl⟩; rw [e]; have hn := HO3.out; rw [Qlb _ _ _ _ _ _ E15.out E2.out E16.out E7.out] at hn; exact hn
     case measure => simp [intOf]; omega
     -- END B
    ·
     -- BEGIN C
     obtain rfl : m = 64 := by omega
     have hws : Qca (w16 b 16) (64 - 16) = Qnl b := rfl; rw [hws] at HO
     obtain ⟨cur, hcur, hcc⟩ : ∃ cur, wr.heap[g]? = some (.cells cur 119 (0, 0)) ∧ ∀ j, j < 64 → cur[j]? = some (.int .u32 ((Qnl b).getD j 0)) := by
      rcases HO.out.2 with ⟨h0, _⟩ | ⟨g', cap', cur, h0, _, hg', _, _, _, ht⟩
      ·
       cases h0
      ·
       injection h0 with h1 _ _
       injection h1 with h1
       injection h1 with h1
       subst h1; refine ⟨cur, hg', fun j hj => ?_⟩; have h2 : (cur.toList.take (64 * 1))[j]? = (nums .u32 (Qnl b))[j]? := by rw [ht]
       rw [List.getElem?_take_of_lt (by omega)] at h2; rw [← Array.getElem?_toList, h2]; have hl : j < (Qnl b).length := by rw [Qit]; exact hj
       simp [nums, List.getElem?_eq_getElem hl]
     have HCC := Lib.hid hcc; have HG := Lib.hid hcur; clear hlen hU hm1 hm2 hlt hws HO HL hv hcc hcur; obtain ⟨w1, rfl⟩ : ∃ w1 : World, w1 = wr := ⟨_, rfl⟩
     go_wp2_with fail
     refine (Qo2 _).mono ?_; rintro e w2 ⟨rfl, hb2⟩; have HG2 := Lib.hid (Qam HG.out hb2); have HW2 := Lib.hid (show RbW w h w2 from ⟨Qam HW.out.b0 hb2, Qam HW.out.b1 hb2, Qa0 HW.out.bel hb2⟩); clear hb2 HG HW
     go_upto_region 17 with (refine Go.wpList_store_row rfl 137 (.tmp 13) (.tmp 116) rfl w2.heap.size (Qbk Qc1) rfl rfl 137 _ (Qml _ _ rfl) (by kernel_rfl) rfl (Qdv _) ?_)
     generalize hW3 : World.setRow (World.alloc w2 _) _ _ = w3; have gl : w.heap.size + 1 < w2.heap.size := Qb7 HW2.out.b1; have gl2 : g < w2.heap.size := Qb7 HG2.out; have HK3 := Lib.hid (show w3.heap[w2.heap.size]? = some (.cells (Qbk Qc1) 137 (0, 0)) by rw [← hW3]; exact setRow_heap _ _ _ _ _ _ (Qml _ _ rfl)); have HG3 := Lib.hid (show w3.heap[g]? = some (.cells cur 119 (0, 0)) by rw [← hW3]; exact (setRow_other _ _ _ _ (by omega)).trans (Qah HG2.out _))
     have HW3 := Lib.hid (show RbW w h w3 by
      rw [← hW3]
      exact ⟨(setRow_other _ _ _ _ (by omega)).trans (Qah HW2.out.b0 _), (setRow_other _ _ _ _ (by omega)).trans (Qah HW2.out.b1 _), below_setRow (Qbq HW2.out.bel _) (by omega) _⟩)
     clear hW3 HG2 HW2; obtain ⟨gk, egk⟩ : ∃ gk, gk = w2.heap.size := ⟨_, rfl⟩; rw [← egk] at HK3 gl gl2 ⊢; clear egk; have x0 : w3.cell? ⟨w.heap.size, 0, none⟩ = some (.int .u32 h.a) := Qaa HW3.out.b0 0; have x1 : w3.cell? ⟨w.heap.size, 1, none⟩ = some (.int .u32 h.b) := Qaa HW3.out.b0 1; have x2 : w3.cell? ⟨w.heap.size, 2, none⟩ = some (.int .u32 h.c) := Qaa HW3.out.b0 2; have x3 : w3.cell? ⟨w.heap.size, 3, none⟩ = some (.int .u32 h.d) := Qaa HW3.out.b0 3; have x4 : w3.cell? ⟨w.heap.size, 4, none⟩ = some (.int .u32 h.e) := Qaa HW3.out.b0 4; have x5 : w3.cell? ⟨w.heap.size, 5, none⟩ = some (.int .u32 h.f) := Qaa HW3.out.b0 5; have x6 : w3.cell? ⟨w.heap.size, 6, none⟩ = some (.int .u32 h.g) := Qaa HW3.out.b0 6; have x7 : w3.cell? ⟨w.heap.size, 7, none⟩ = some (.int .u32 h.h) := Qaa HW3.out.b0 7
     go_wp2_with fail
     clear x0 x1 x2 x3 x4 x5 x6 x7
     go_loopw [14, 15, 16, 17, 18, 19, 20, 21, 22] (fun va vb vc vd ve vf vg vh i wr => ∃ (k : Nat) (st : St), k ≤ 64 ∧ i = .int .i64 k ∧ Hid (st = rnds h Qc1 (Qnl b) k) ∧ va = .int .u32 st.a ∧ vb = .int .u32 st.b ∧ vc = .int .u32 st.c ∧ vd = .int .u32 st.d ∧ ve = .int .u32 st.e ∧ vf = .int .u32 st.f ∧ vg = .int .u32 st.g ∧ vh = .int .u32 st.h ∧ Hid (wr.heap[gk]? = some (.cells (Qbk Qc1) 137 (0, 0))) ∧ Hid (wr.heap[g]? = some (.cells cur 119 (0, 0))) ∧ Hid (RbW w h wr)) (fun _ _ _ _ _ _ _ _ i _ => 64 - (intOf i).toNat)
     case atStart => exact ⟨0, h, by omega, rfl, Lib.hid rfl, rfl, rfl, rfl, rfl, rfl, rfl, rfl, rfl, HK3, HG3, HW3⟩
     case round =>
      clear HK3 HG3 HW3; obtain ⟨k, st, hk, rfl, EST, rfl, rfl, rfl, rfl, rfl, rfl, rfl, rfl, HK, HG, HW⟩ := hrel
      by_cases hlt : k < 64
      ·
       have u : st.U := by rw [EST.out]; exact rnds_U HU.out _ _ _
       have uA : U st.a := u _ (by simp [St.list]); have uE : U st.e := u _ (by simp [St.list]); have e0 := uE.1; have e1 := uE.2; have y1 : wr.drew.cell? ⟨gk, k, none⟩ = some (.int .u32 (Qc1.getD k 0)) := (Qaa (w := wr.drew) HK.out k).trans (Qga _ _ hlt); have y2 : wr.drew.cell? ⟨g, k, none⟩ = some (.int .u32 ((Qnl b).getD k 0)) := (Qaa (w := wr.drew) HG.out k).trans (HCC.out k hlt)
       have r1 := fun w' => Qpn gk k hlt (k : Int) rfl w'
       have r2 := fun w' => Qhf g 64 cap k hlt (k : Int) rfl w'
       have hK2 := Lib.hid (show wr.drew.heap[gk]? = _ from HK.out); have hG2 := Lib.hid (show wr.drew.heap[g]? = _ from HG.out); have hW2 := Lib.hid HW.out.drew; clear u HK HG HW
       go_wp2_with (first | (go_at_call 106; refine (Qi4 _ _ (by assumption) (by decide) (by decide) _).mono ?_; rintro e w4 ⟨rfl, rfl⟩))
       go_still (by kernel_rfl)
       change Exit.then _ _ _ _ wr.drew
       clear y1 y2 r1 r2; generalize wr.drew = w5 at hK2 hG2 hW2 ⊢
       go_wp2_with (first | (go_at_call 106; refine (Qi4 _ _ (by assumption) (by decide) (by decide) _).mono ?_; rintro e w4 ⟨rfl, rfl⟩))
       go_roundw
       case rel =>
        refine ⟨k + 1, rnd st (Qc1.getD k 0) ((Qnl b).getD k 0), by omega, by go_num, Lib.hid (by rw [EST.out]; rfl), ?_, rfl, rfl, rfl, ?_, rfl, rfl, rfl, hK2, hG2, hW2⟩
        ·
         simp only [rnd, tI, uI, S0, S1, chI, majI, IntKind.wrap_u32, List.getD_eq_getElem?_getD]
        ·
         simp only [rnd, tI, uI, S0, S1, chI, majI, IntKind.wrap_u32, List.getD_eq_getElem?_getD]
       case measure => simp [intOf]; omega
      ·
       obtain rfl : k = 64 := by omega
       have x0 : wr.cell? ⟨w.heap.size, 0, none⟩ = some (.int .u32 h.a) := Qaa HW.out.b0 0; have x1 : wr.cell? ⟨w.heap.size, 1, none⟩ = some (.int .u32 h.b) := Qaa HW.out.b0 1; have x2 : wr.cell? ⟨w.heap.size, 2, none⟩ = some (.int .u32 h.c) := Qaa HW.out.b0 2; have x3 : wr.cell? ⟨w.heap.size, 3, none⟩ = some (.int .u32 h.d) := Qaa HW.out.b0 3; have x4 : wr.cell? ⟨w.heap.size, 4, none⟩ = some (.int .u32 h.e) := Qaa HW.out.b0 4; have x5 : wr.cell? ⟨w.heap.size, 5, none⟩ = some (.int .u32 h.f) := Qaa HW.out.b0 5; have x6 : wr.cell? ⟨w.heap.size, 6, none⟩ = some (.int .u32 h.g) := Qaa HW.out.b0 6; have x7 : wr.cell? ⟨w.heap.size, 7, none⟩ = some (.int .u32 h.h) := Qaa HW.out.b0 7; clear HK HG hlt hk
       go_wp2_with (refine Go.wpList_store_row rfl 120 (.tmp 4) (.tmp 232) rfl (w.heap.size + 1) _ rfl rfl 120 _ HW.out.b1 (by kernel_rfl) rfl (one8 _ _ _ _ _ _ _ _) ?_)
       have hr := setRow_heap wr (w.heap.size + 1) _ (Qbk (Qpa h b).list) _ _ HW.out.b1; rw [Qpu h st b EST.out]; refine bodyPost_ret (v := .tuple #[Qqe (Qpa h b).list, .int .i64 0]) (Qhq Tryz.results93 rfl hr Tryz.underlying120 (by kernel_rfl) rfl) rfl ⟨rfl, below_setRow HW.out.bel (by omega) _⟩
     -- END C
end Go.Proofs.YtopijobdblfhoaaGreat.Sa
end
section
namespace Go.Proofs.YtopijobdblfhoaaGreat.Sa
open Go.Proofs.YtopijobdblfhoaaGreat.Sm
open Go.RowKit Go.Proofs.YtopijobdblfhoaaGreatW.PrintWords Go.Proofs.YtopijobdblfhoaaGreatW.PrintLast Go.Proofs.YtopijobdblfhoaaGreatW.PrintMore

section
variable {P : Program} {ops : Array Oper} {o : Oper} {a : Act} {Kc : Act → World → Prop} {Q' : Exit → Act → World → Prop}
theorem Qej {w0 W : World} (base : Nat) (hw : Region.wanted o (yielded ops a.tmps) = true) (s x : Operand) (t e : TypeId) (k : IntKind) (bytes : Nat)
  (ho : o.op = .call { callee := .builtin .append, args := #[s, x], argTypes := #[t, t] })
  (ht : P.underlying t = some (.slice e)) (hinfo : (P.info? e).map (fun i => (i.zero, i.size, i.bytes)) = some (some (.int k 0), 1, bytes)) (hb0 : 0 < bytes)
  (v : Value) (xs ys : List Int) (hs : a.eval s = v) (hx : a.eval x = .slice (some ⟨W.heap.size, 0, none⟩) ys.length ys.length)
  (HO : W.ownsRow base e 1 v xs.length (nums k xs)) (HB : Below base w0 W) (hbase : base ≤ W.heap.size) (hl : (xs.length + ys.length) * bytes ≤ 140737488355328)
  (h : ∀ v1 w1, w1.ownsRow base e 1 v1 (xs ++ ys).length (nums k (xs ++ ys)) → Below base w0 w1 → W.grownBy w1 v.ownBlock → Kc (a.put o.dst v1) w1) :
  if Region.wanted o (yielded ops a.tmps) = true then Oper.wp P o a (W.alloc (.cells (nums k ys).toArray e)) Kc Q' else Kc (a.put o.dst undef) (W.alloc (.cells (nums k ys).toArray e)) := by
 obtain ⟨i0, hi, hzz⟩ := Option.map_eq_some_iff.1 hinfo; simp only [Prod.mk.injEq] at hzz; obtain ⟨hz0, hz1, hz2⟩ := hzz; have hlen : xs.length + ys.length ≤ 140737488355328 := Nat.le_trans (Nat.le_mul_of_pos_right _ hb0) hl
 obtain ⟨v1, w1, hr, h2, h3, _, h5⟩ := run_append_own_at (P := P) (W.alloc (.cells (nums k ys).toArray e)) base t o.type e i0 (.int k 0) 1 bytes ht hi hz0 hz1 hz2 rfl (by omega) v xs.length (nums k xs) (HO.alloc _) ⟨W.heap.size, 0, none⟩ ys.length ys.length (nums k ys) (by rw [nums_length]; omega)
  (fun j u hu => by
   rw [add_plain]; refine (Qaa (Qa9 W _) j).trans ?_
   simpa using hu) (by intro u hu; simp only [nums, List.mem_map] at hu; obtain ⟨q, _, rfl⟩ := hu; rfl) (by simp only [maxLen]; omega) hl (by simp; omega)
 rw [if_pos hw]; unfold Oper.wp execOp; simp only [ho, resolve, invoke, builtin, Sem.run_bind, Sem.run_pure, Result.andThen_ok, List.map_toArray, List.map_cons, List.map_nil, hs, hx, hr]; exact h v1 w1 (by simpa [nums] using h2) ((HB.alloc hbase _).grown h3 (by simp; omega) (Qbr HO)) (World.grownBy.trans (World.grownBy_alloc W _ _) h3)
end
def b4w (x : Int) : List Int := [IntKind.u8.wrap (x / 16777216), IntKind.u8.wrap (x / 65536 % 256), IntKind.u8.wrap (x / 256 % 256), IntKind.u8.wrap (x % 256)]
theorem b4w_eq (x : Int) : b4w x = b4 x := by
 unfold b4w b4; simp only [IntKind.wrap_u8]; congr 1; congr 1
 ·
  omega
 congr 1
 ·
  omega
 congr 1
 ·
  omega

set_option maxHeartbeats 8000000 in
set_option maxRecDepth 100000 in
theorem rsum_c (s : ByteArray) (hs : s.size ≤ 140737488351232) (w : World) :
  Calls Tryz.prog 67 #[.string s] w fun e w' => e = .returned (.string (sumB s)) ∧ Below w.heap.size w w' := by
 go_enter Tryz.func67, Tryz.ntmps67
 go_wp2_with fail
 refine (Qek _).mono ?_; rintro e w2 ⟨rfl, hb1⟩; have HB2 := Lib.hid hb1; clear hb1
 go_wp2_with (refine Go.wpList_store_row rfl 120 (.tmp 3) (.tmp 8) rfl w2.heap.size (Qbk Qh6) rfl rfl 120 _ (Qml _ _ rfl) (by kernel_rfl) rfl (Qdv _) ?_)
 refine (rpad_c s hs _).mono ?_; rintro e w3 ⟨rfl, hb3⟩; have G1 : w3.heap[w2.heap.size]? = some (.cells (Qbk Qh6) 120 (0, 0)) := Qam (setRow_heap _ _ _ _ _ _ (Qml _ _ rfl)) hb3; have HB3 := Lib.hid (Qa0 (below_setRow (HB2.out.alloc HB2.out.size _) HB2.out.size _) hb3); clear hb3; have hgb : w.heap.size ≤ w2.heap.size := HB2.out.size; obtain ⟨p, ep⟩ : ∃ p, p = Qlk s := ⟨_, rfl⟩; have hps := Qhv s; have hp64 := padB_64 s; rw [← ep] at hps hp64 ⊢; have HP := Lib.hid ep; clear ep; obtain ⟨n, hn⟩ : ∃ n, n = p.size / 64 := ⟨_, rfl⟩; rw [← hn] at hp64; have HN := Lib.hid hn; have hnb : n ≤ 2199023255552 := by omega
 have HPS := Lib.hid hps; have HP64 := Lib.hid hp64; clear hn hps hp64; generalize w2.heap.size = g at G1 hgb ⊢; clear HB2
 go_wp2_with fail
 go_loopw [5] (fun i wr => ∃ j : Nat, j ≤ n ∧ i = .int .i64 (64 * (j : Int)) ∧ wr.heap[g]? = some (.cells (Qbk (stN p j).list) 120 (0, 0)) ∧ Hid (Below w.heap.size w wr)) (fun i _ => (64 * n - (intOf i).toNat))
 case atStart => exact ⟨0, Nat.zero_le _, rfl, G1, HB3⟩
 case round =>
  clear G1 HB3; obtain ⟨j, hj, rfl, hg, HB⟩ := hrel
  by_cases hlt : j < n
  ·
   have hsz := HP64.out; have l1 : 64 * j + 64 ≤ p.size := by omega
   have q1 : IntKind.i64.wrap (64 * (j : Int) + 64) = 64 * (j : Int) + 64 := (Qay _).trans (Go.IntWalk.wrap64_in _ (by omega))
   have sl : ∀ w, (Instr.slice 9 (.string p) (some (.int .i64 (64 * (j : Int)))) (some (.int .i64 (64 * (j : Int) + 64))) none).run Tryz.prog w = .ok (.string (p.extract (64 * j) (64 * j + 64))) w := fun w => by
    have h := run_slice_string (P := Tryz.prog) w 9 p .i64 .i64 (64 * (j : Int)) (64 * (j : Int) + 64) Tryz.underlying9 (by omega) (by omega) (by omega); have e1 : (64 * (j : Int)).toNat = 64 * j := by omega
    have e2 : (64 * (j : Int) + 64).toNat = 64 * j + 64 := by omega
    rw [e1, e2] at h; exact h
   have EX := Lib.hid (show (p.extract (64 * j) (64 * j + 64)).size = 64 by rw [ByteArray.size_extract]; omega); have lt : (64 * (j : Int)) < (p.size : Int) := by omega
   have HG := Qan.mk (show wr.drew.heap[g]? = some (.cells (Qbk (stN p j).list) 120 (0, 0)) from hg); replace HB := Qan.mk HB.out; clear hsz l1 hg
   go_wp2_with fail
   refine Qcw (n := 11) (S := fun w' : World => w'.heap[g]? = some (.cells (Qbk (stN p j).list) 120 (0, 0))) (ds := [10]) #[false, false, false, false, false, false, false, false, false, false, false] (by kernel_rfl) rfl rfl HG.out (fun hHeld => ?_); replace HG := Qan.mk hHeld; replace HB := Qan.mk (Qaj HB.out); generalize wr.drew = w1 at hHeld HG HB ⊢; refine pz_ 1 (some 19) 2 (h := ?_); refine pz_ 2 (some 20) 6 (h := ?_); refine pz_ 3 (some 21) 14 (h := ?_); refine pz_ 4 (some 22) 30 (h := ?_); refine pz_ 5 (some 23) 62 (h := ?_); refine take_ (i := 0) (N := some 18) (v := .agg (Qbk (stN p j).list)) (a' := ?_) #[true, true, true, true, true, true, false, false, false, false, false] rfl rfl (by kernel_rfl) (fun _ _ _ h => h) (Or.inl ⟨by rfl, ?_⟩) hHeld ?_ ?_
   ·
    rintro w' s0; exact Qg7 _ rfl rfl s0 Tryz.underlying120 rfl (by kernel_rfl)
   rotate_left
   ·
    simp only [Act.put, List.setIfInBounds_toArray, List.set_cons_zero, List.set_cons_succ, Qay, Qa3]; rfl
   refine Qjg (i := 6) (N := some 24) #[true, true, true, true, true, true, true, false, false, false, false] rfl rfl (by kernel_rfl) (by decide) (fun K hK => ?_); refine Qm9 Tryz.func93 (by kernel_rfl) rfl #[.agg (Qbk (stN p j).list), .string (p.extract (64 * j) (64 * j + 64))] (by rfl) rfl rfl (by (try simp only [List.map_toArray, List.map_cons, List.map_nil]); first | done | rfl) ?_; refine (Qlo (stN p j) (stN_U p j) (p.extract (64 * j) (64 * j + 64)) EX.out _).mono ?_; rintro e w2 ⟨rfl, hb⟩; refine ⟨_, rfl, ?_⟩; have n0_ := Qan.mk (Qam HG.out hb); have n2_ := Qan.mk (Qa0 HB.out hb); clear HG HB hb; have HG := n0_; have HB := n2_; clear n0_ n2_; refine hK.out _ _ HG.out (fun hHeld => ?_); clear hK K; refine Qbb (a' := ?_) ?_ ?_; rotate_left
   ·
    show Act.put _ (some 24) _ = _; simp only [Act.put, List.setIfInBounds_toArray, List.set_cons_zero, List.set_cons_succ, Qay, Qa3]; rfl
   refine pz_ 7 (some 17) 255 (h := ?_); refine pz_ 8 (some 25) 511 (h := ?_); refine pz_ 9 (some 26) 1023 (h := ?_); refine Qe2 (i := 10) (N := none) #[true, true, true, true, true, true, true, true, true, true, true] rfl rfl (by kernel_rfl) (by decide) (fun K hK => ?_); refine Qiv (w1 := w2.setRow g (Qbk (stN p (j + 1)).list)) (by rfl) rfl ?_ ?_
   ·
    exact Qft _ rfl rfl rfl HG.out (by kernel_rfl) rfl (Qdv _)
   refine hK.out _ _ ?_; clear hK K; refine Qbt (by kernel_rfl) ?_; clear sl q1 lt
   go_wp2_with fail
   go_roundw
   case rel =>
    refine ⟨j + 1, by omega, ?_, setRow_heap _ _ _ _ _ _ HG.out, Lib.hid (below_setRow HB.out (by omega) _)⟩
    first | rfl | (congr 1; omega) | go_num
   case measure => simp [intOf]; omega
  ·
   obtain rfl : j = n := by omega
   have hsz := HP64.out; have lt : ¬ (64 * (j : Int)) < (p.size : Int) := by omega
   clear hsz hlt hj; obtain ⟨w4, rfl⟩ : ∃ w4 : World, w4 = wr := ⟨_, rfl⟩; obtain ⟨S, eS⟩ : ∃ S, S = stN p j := ⟨_, rfl⟩; rw [← eS] at hg; have ES := Lib.hid eS; clear eS
   go_wp2_with fail
   clear lt
   go_loopw [6, 7] (fun v s wr => ∃ k : Nat, k ≤ 8 ∧ s = .int .i64 k ∧ Hid (wr.ownsRow w.heap.size 5 1 v ((S.list.take k).flatMap b4).length (nums .u8 ((S.list.take k).flatMap b4))) ∧ Hid (wr.heap[g]? = some (.cells (Qbk S.list) 120 (0, 0))) ∧ Hid (Below w.heap.size w wr)) (fun _ s _ => 8 - (intOf s).toNat)
   case atStart => exact ⟨0, by omega, rfl, Lib.hid (Qg2 _ _ _ _), Lib.hid hg, HB⟩
   case round =>
    clear hg HB; obtain ⟨k, hk, rfl, HO, HG, HB⟩ := hrel
    by_cases hlt : k < 8
    ·
     obtain ⟨X, eX⟩ : ∃ X, X = S.list.getD k 0 := ⟨_, rfl⟩; have c0 : wr.cell? ⟨g, k, none⟩ = some (.int .u32 X) := by rw [eX]; exact (Qaa HG.out k).trans (Qga _ _ hlt)
     have uX : U X := by rw [eX, ES.out]; exact Qmy (stN_U p j) k
     have x0 := uX.1; have x1 := uX.2; have t1 : X.tdiv 16777216 = X / 16777216 := Int.tdiv_eq_ediv_of_nonneg x0; have t2 : X.tdiv 65536 = X / 65536 := Int.tdiv_eq_ediv_of_nonneg x0; have t3 : X.tdiv 256 = X / 256 := Int.tdiv_eq_ediv_of_nonneg x0; have t4 : (X / 65536).tmod 256 = X / 65536 % 256 := Int.tmod_eq_emod_of_nonneg (by omega); have t5 : (X / 256).tmod 256 = X / 256 % 256 := Int.tmod_eq_emod_of_nonneg (by omega); have t6 : X.tmod 256 = X % 256 := Int.tmod_eq_emod_of_nonneg x0; have w1 : IntKind.u32.wrap (X / 16777216) = X / 16777216 := Qdu ⟨by omega, by omega⟩; have w2 : IntKind.u32.wrap (X / 65536) = X / 65536 := Qdu ⟨by omega, by omega⟩; have w3 : IntKind.u32.wrap (X / 256) = X / 256 := Qdu ⟨by omega, by omega⟩; have w4 : IntKind.u32.wrap (X / 65536 % 256) = X / 65536 % 256 := Qdu ⟨by omega, by omega⟩; have w5 : IntKind.u32.wrap (X / 256 % 256) = X / 256 % 256 := Qdu ⟨by omega, by omega⟩; have w6 : IntKind.u32.wrap (X % 256) = X % 256 := Qdu ⟨by omega, by omega⟩
     have r1 := fun w' => run_at8 g k hlt (k : Int) rfl w'
     have HL := Lib.hid (show ((S.list.take k).flatMap b4).length = 4 * k by rw [b4_len, List.length_take]; show 4 * min k 8 = _; omega); have EX := Lib.hid eX; clear eX uX
     go_wp2_with fail
     refine Qcw (n := 26) (S := fun w' : World => w'.cell? ⟨g, k, none⟩ = some (.int .u32 X)) (ds := [24]) #[false, false, false, false, false, false, false, false, false, false, false, false, false, false, false, false, false, false, false, false, false, false, false, false, false, false] (by kernel_rfl) rfl rfl c0 (fun hHeld => ?_); have HO2 := Lib.hid (show wr.drew.ownsRow _ _ _ _ _ _ from HO.out); have HG2 := Lib.hid (show wr.drew.heap[g]? = _ from HG.out); have HB2 := Lib.hid (Qaj HB.out); have b0 : wr.drew.cell? ⟨g, k, none⟩ = some (.int .u32 X) := c0; clear HO HG HB c0; generalize wr.drew = w2 at HO2 HG2 HB2 hHeld b0 ⊢; refine pz_ 0 (some 31) 1 (h := ?_); refine pz_ 1 (some 32) 3 (h := ?_); refine pz_ 2 (some 33) 7 (h := ?_); refine take_ (i := 3) (N := some 34) (v := ?_) (a' := ?_) #[true, true, true, true, false, false, false, false, false, false, false, false, false, false, false, false, false, false, false, false, false, false, false, false, false, false] rfl rfl (by kernel_rfl) (fun _ _ _ h => h) (Or.inl ⟨by rfl, ?_⟩) hHeld ?_ ?_; rotate_left
     ·
      rintro w' s0; go_simp
      with_reducible rfl
     rotate_left
     ·
      simp only [Act.put, List.setIfInBounds_toArray, List.set_cons_zero, List.set_cons_succ, Qay, Qa3]; rfl
     refine pz_ 4 (some 35) 31 (h := ?_); refine pz_ 5 (some 36) 63 (h := ?_); refine pz_ 6 (some 37) 127 (h := ?_); refine pz_ 7 (some 38) 255 (h := ?_); refine take_ (i := 8) (N := some 39) (v := ?_) (a' := ?_) #[true, true, true, true, true, true, true, true, true, false, false, false, false, false, false, false, false, false, false, false, false, false, false, false, false, false] rfl rfl (by kernel_rfl) (fun _ _ _ h => h) (Or.inl ⟨by rfl, ?_⟩) hHeld ?_ ?_; rotate_left
     ·
      rintro w' s0; go_simp
      with_reducible rfl
     rotate_left
     ·
      simp only [Act.put, List.setIfInBounds_toArray, List.set_cons_zero, List.set_cons_succ, Qay, Qa3]; rfl
     refine pz_ 9 (some 40) 1023 (h := ?_); refine pz_ 10 (some 41) 2047 (h := ?_); refine pz_ 11 (some 42) 4095 (h := ?_); refine pz_ 12 (some 43) 8191 (h := ?_); refine pz_ 13 (some 44) 16383 (h := ?_); refine take_ (i := 14) (N := some 45) (v := ?_) (a' := ?_) #[true, true, true, true, true, true, true, true, true, true, true, true, true, true, true, false, false, false, false, false, false, false, false, false, false, false] rfl rfl (by kernel_rfl) (fun _ _ _ h => h) (Or.inl ⟨by rfl, ?_⟩) hHeld ?_ ?_; rotate_left
     ·
      rintro w' s0; go_simp
      with_reducible rfl
     rotate_left
     ·
      simp only [Act.put, List.setIfInBounds_toArray, List.set_cons_zero, List.set_cons_succ, Qay, Qa3]; rfl
     refine pz_ 15 (some 46) 65535 (h := ?_); refine pz_ 16 (some 47) 131071 (h := ?_); refine pz_ 17 (some 48) 262143 (h := ?_); refine pz_ 18 (some 49) 524287 (h := ?_); refine pz_ 19 (some 50) 1048575 (h := ?_); refine take_ (i := 20) (N := some 51) (v := ?_) (a' := ?_) #[true, true, true, true, true, true, true, true, true, true, true, true, true, true, true, true, true, true, true, true, true, false, false, false, false, false] rfl rfl (by kernel_rfl) (fun _ _ _ h => h) (Or.inl ⟨by rfl, ?_⟩) hHeld ?_ ?_; rotate_left
     ·
      rintro w' s0; go_simp
      with_reducible rfl
     rotate_left
     ·
      simp only [Act.put, List.setIfInBounds_toArray, List.set_cons_zero, List.set_cons_succ, Qay, Qa3]; rfl
     refine pz_ 21 (some 52) 4194303 (h := ?_); refine pz_ 22 (some 53) 8388607 (h := ?_); refine Qjg (i := 23) (N := some 54) #[true, true, true, true, true, true, true, true, true, true, true, true, true, true, true, true, true, true, true, true, true, true, true, true, false, false] rfl rfl (by kernel_rfl) (by decide) (fun K hK => ?_); refine Qj1 (v := ?_) (w1 := ?_) (by rfl) rfl ?_ ?_; rotate_left; rotate_left
     ·
      go_simp
      first | rfl | (constructor <;> rfl)
     refine hK.out _ _ (Qd7 b0 _) (fun hHeld => ?_); clear hK K; refine Qbb (a' := ?_) ?_ ?_; rotate_left
     ·
      show Act.put _ (some 54) _ = _; simp only [Act.put, List.setIfInBounds_toArray, List.set_cons_zero, List.set_cons_succ, Qay, Qa3]; rfl
     refine Qe2 (i := 24) (N := some 55) #[true, true, true, true, true, true, true, true, true, true, true, true, true, true, true, true, true, true, true, true, true, true, true, true, true, false] rfl rfl (by kernel_rfl) (by decide) (fun K hK => ?_); refine Qej (w0 := w) w.heap.size (by rfl) (.tmp 31) (.tmp 54) 124 5 .u8 1 rfl Tryz.underlying124 Qgr (by decide) _ ((S.list.take k).flatMap b4) (b4w X) rfl rfl HO2.out HB2.out HB2.out.size (by rw [HL.out]; show (4 * k + 4) * 1 ≤ _; omega) ?_; intro v1 w3 hown hbel hg; have HO3 := Lib.hid hown; have HB3 := Lib.hid hbel; have HG3 := Lib.hid (Qcy HG2.out hg (Qki HO2.out HG2.out (by decide))); clear hown hbel hg HO2 HB2 HG2; refine hK.out _ _ ?_; clear hK K; refine Qbb (a' := ?_) ?_ ?_; rotate_left
     ·
      show Act.put _ (some 55) _ = _; simp only [Act.put, List.setIfInBounds_toArray, List.set_cons_zero, List.set_cons_succ, Qay, Qa3]; rfl
     refine pz_ 25 (some 6) 67108863 (h := ?_); refine Qbt (by kernel_rfl) ?_
     go_wp2_with fail
     go_roundw
     case rel =>
      have e : (S.list.take (k + 1)).flatMap b4 = (S.list.take k).flatMap b4 ++ b4w X := by
       have hk' : k < S.list.length := hlt; rw [List.take_succ_eq_append_getElem hk', List.flatMap_append, b4w_eq, EX.out, List.getD_eq_getElem?_getD, List.getElem?_eq_getElem hk']; simp
      refine ⟨k + 1, by omega, by go_num, Lib.hid ?_, HG3, HB3⟩; rw [e]; exact HO3.out
     case measure => simp [intOf]; omega
    ·
     obtain rfl : k = 8 := by omega
     have e8 : (S.list.take 8).flatMap b4 = (S.list.flatMap Qht).map fun b => ((b.toNat : Nat) : Int) := by
      have := Qln S (by rw [ES.out]; exact stN_U _ _); unfold outL at this
      simpa using this
     rw [e8] at HO; have cv := Qfz (P := Tryz.prog) (src := 124) (dst := 9) Tryz.underlying124 Tryz.underlying5 Tryz.underlying9 HO.out; rw [Qdq] at cv; clear HO e8 hlt hk
     go_wp2_with fail
     go_ret; refine ⟨?_, HB.out⟩; show Ending.returned (.string ⟨(S.list.flatMap Qht).toArray⟩) = _; unfold sumB; rw [Qok, ← HP.out, ← HN.out, ← ES.out]
end Go.Proofs.YtopijobdblfhoaaGreat.Sa
end
