import Derived.Test.YtopijobdblfhoaaGreatVTuskAsksHz
import Derived.ArgAppend
import Derived.Lib.ConvBytes
import Derived.Lib.AppendStr
import Derived.Laws.IdiomCopy
import Derived.Deep.CutRange
/- Trimmed by a program. By an AI agent. -/
section
namespace Go.Proofs.YtopijobdblfhoaaGreat.Sa
open Go.RowKit Go.Proofs.YtopijobdblfhoaaGreatW.PrintWords Go.Proofs.YtopijobdblfhoaaGreatW.PrintLast Go.Proofs.YtopijobdblfhoaaGreatW.PrintMore
set_option linter.unusedVariables false
set_option linter.unusedSimpArgs false

def BB (base : Nat) (w : World) (v : Value) (l : List Int) : Prop :=
 ∃ g cap, v = .slice (some ⟨g, 0, none⟩) l.length cap ∧ base ≤ g ∧ g < w.heap.size ∧ l.length ≤ cap ∧ cap ≤ maxLen ∧ (∀ j, j < cap → (w.cell? ⟨g, j, none⟩).isSome = true) ∧ (∀ j, j < cap → w.frozen? ⟨g, j, none⟩ = false) ∧ (∀ j x, l[j]? = some x → w.cell? ⟨g, j, none⟩ = some (.int .u8 x))
theorem BB.base {base : Nat} {w : World} {v : Value} {l : List Int} (h : BB base w v l) : ∀ k, v.ownBlock = some k → base ≤ k := by
 obtain ⟨g, cap, rfl, hb, _⟩ := h
 intro k hk
 simp only [Value.ownBlock, Option.some.injEq] at hk
 omega
theorem BB.below {base : Nat} {w w1 : World} {v : Value} {l : List Int} (h : BB base w v l) (hb : Below w.heap.size w w1) : BB base w1 v l := by
 obtain ⟨g, cap, rfl, h1, h2, h3, h4, h5, h6, h7⟩ := h
 refine ⟨g, cap, rfl, h1, by have := hb.size; omega, h3, h4, fun j hj => ?_, fun j hj => ?_, fun j x hx => ?_⟩
 ·
  rw [hb.cell (p := ⟨g, j, none⟩) h2]; exact h5 j hj
 ·
  rw [hb.frozen (p := ⟨g, j, none⟩) h2]; exact h6 j hj
 ·
  rw [hb.cell (p := ⟨g, j, none⟩) h2]; exact h7 j x hx
theorem BB.other {base : Nat} {w w1 : World} {v : Value} {l : List Int} {row : Option Nat} (h : BB base w v l) (hg : w.grownBy w1 row) (hne : v.ownBlock ≠ row) : BB base w1 v l := by
 obtain ⟨g, cap, rfl, h1, h2, h3, h4, h5, h6, h7⟩ := h
 have hh := hg.block g h2 (by simpa [Value.ownBlock] using hne)
 refine ⟨g, cap, rfl, h1, by have := hg.size; omega, h3, h4, fun j hj => ?_, fun j hj => ?_, fun j x hx => ?_⟩
 ·
  have := h5 j hj; simpa [World.cell?, hh] using this
 ·
  have := h6 j hj; simpa [World.frozen?, hh] using this
 ·
  have := h7 j x hx; simpa [World.cell?, hh] using this
theorem BB.alloc {base : Nat} {w : World} {v : Value} {l : List Int} (h : BB base w v l) (o : Obj) : BB base (w.alloc o) v l := h.below ((Below.refl _ _).alloc (Nat.le_refl _) _)
theorem BB.reads {base : Nat} {w : World} {v : Value} {l : List Int} (h : BB base w v l) : ∃ A c, v = .slice A l.length c ∧ ReadsInt w .u8 A l.length l := by
 obtain ⟨g, cap, rfl, h1, h2, h3, h4, h5, h6, h7⟩ := h
 refine ⟨_, _, rfl, rfl, by unfold maxLen at h4; omega, fun _ => ⟨_, rfl, fun j hj => ?_⟩⟩
 rw [add_plain]
 exact (h7 j _ (List.getElem?_eq_getElem hj)).trans (by simp [List.getD_eq_getElem?_getD, List.getElem?_eq_getElem hj])
theorem BB.of_own {base : Nat} {w : World} {v : Value} {l : List Int} {e : TypeId} (h : w.ownsRow base e 1 v l.length (nums .u8 l)) (hv : v ≠ .slice none 0 0) : BB base w v l := by
 rcases h.2 with ⟨h0, _⟩ | ⟨g, cap, cur, rfl, hb, hg, hn, hc, hs, ht⟩
 ·
  exact absurd h0 hv
 ·
  have hs' : cur.size = cap := by simpa using hs
  refine ⟨g, cap, rfl, hb, blk_lt hg, hn, hc, fun j hj => ?_, fun j _ => blk_frozen hg j, fun j x hx => ?_⟩
  ·
   rw [blk_cell hg j, Array.getElem?_eq_getElem (by omega)]; rfl
  ·
   have hj : j < l.length := (List.getElem?_eq_some_iff.1 hx).1
   rw [blk_cell hg j]
   have : (cur.toList.take (l.length * 1))[j]? = (nums .u8 l)[j]? := by rw [ht]
   rw [List.getElem?_take_of_lt (by omega)] at this
   rw [← Array.getElem?_toList, this]
   simp [nums, hx]
theorem BB.of_bytes {base : Nat} {w : World} (s : ByteArray) (hb : base ≤ w.heap.size) (hs : s.size ≤ 140737488355328) : BB base (Lib.bytesWorld w 5 s) (.slice (some ⟨w.heap.size, 0, none⟩) s.size (grownCap w s.size 0 5)) (bytesOf s) := by
 have hg := Lib.bytesWorld_at_new w 5 s
 have hge := grownCap_ge w s.size 0 5
 have hcm : grownCap w s.size 0 5 ≤ maxLen := grownCap_le_maxLen w s.size 0 5 (by unfold maxLen; omega)
 have hsz : (Lib.bytesCells w 5 s).size = grownCap w s.size 0 5 := by
  have : s.data.size = s.size := rfl
  simp [Lib.bytesCells]
  omega
 refine ⟨w.heap.size, grownCap w s.size 0 5, by rw [bytesOf_length], hb, blk_lt hg, by rw [bytesOf_length]; exact hge, hcm, fun j hj => ?_, fun j hj => ?_, fun j x hx => ?_⟩
 ·
  have : (Lib.bytesWorld w 5 s).cell? ⟨w.heap.size, j, none⟩ = (Lib.bytesCells w 5 s)[j]? := cell_of_row _ _ _ _ _ _ hg
  rw [this, Array.getElem?_eq_getElem (by omega)]; rfl
 ·
  have : ¬ ((Lib.bytesCells w 5 s).size ≤ j) := by omega
  simp [World.frozen?, hg, this]
 ·
  have hj : j < s.size := by have := (List.getElem?_eq_some_iff.1 hx).1; rw [bytesOf_length] at this; exact this
  rw [Lib.bytesWorld_cell w 5 s j hj]
  have hj' : j < s.data.toList.length := by rw [data_length]; exact hj
  simp [bytesOf, List.getElem?_eq_getElem hj'] at hx
  simp [List.getD_eq_getElem?_getD, List.getElem?_eq_getElem hj', ← hx]

theorem setCells_heap (b : Nat) : ∀ (vs : List Value) (o : Nat) (w : World) (k : Nat), k ≠ b → (w.setCells b o vs).heap[k]? = w.heap[k]?
 | [], _, _, _, _ => rfl
 | v :: r, o, w, k, h => by
  rw [World.setCells, setCells_heap b r (o + 1) _ k h]
  exact Below.heap_setCell _ _ _ _ h
theorem setCells_size (b : Nat) : ∀ (vs : List Value) (o : Nat) (w : World), (w.setCells b o vs).heap.size = w.heap.size
 | [], _, _ => rfl
 | v :: r, o, w => by
  rw [World.setCells, setCells_size b r (o + 1)]
  simp [World.setCell]
theorem setCells_os (b : Nat) : ∀ (vs : List Value) (o : Nat) (w : World), (w.setCells b o vs).os = w.os ∧ (w.setCells b o vs).tape = w.tape ∧ (w.setCells b o vs).output = w.output
 | [], _, _ => ⟨rfl, rfl, rfl⟩
 | v :: r, o, w => by
  rw [World.setCells]
  exact setCells_os b r (o + 1) _
theorem grownBy_setCells (w : World) (b o : Nat) (vs : List Value) : w.grownBy (w.setCells b o vs) (some b) :=
 ⟨(setCells_os b vs o w).1, (setCells_os b vs o w).2.1, (setCells_os b vs o w).2.2, by rw [setCells_size]; exact Nat.le_refl _, fun k _ hk => setCells_heap b vs o w k (fun e => hk (by rw [e]))⟩
theorem BB.wrote {base g cap : Nat} {w : World} {l ys : List Int} (h : BB base w (.slice (some ⟨g, 0, none⟩) l.length cap) l) (hr : l.length + ys.length ≤ cap) :
  BB base (w.setCells g (0 + l.length * 1) (nums .u8 ys)) (.slice (some ⟨g, 0, none⟩) (l.length + ys.length) cap) (l ++ ys) := by
 obtain ⟨g', cap', he, h1, h2, h3, h4, h5, h6, h7⟩ := h
 injection he with e1 _ e3
 injection e1 with e1
 injection e1 with e1
 subst e1 e3
 simp only [Nat.zero_add, Nat.mul_one]
 have hin : ∀ j, j < (nums .u8 ys).length → (w.cell? ⟨g, l.length + j, none⟩).isSome = true := fun j hj => h5 _ (by rw [nums_length] at hj; omega)
 refine ⟨g, cap, by rw [List.length_append], h1, by rw [setCells_size]; exact h2, by rw [List.length_append]; exact hr, h4, fun j hj => ?_, fun j hj => ?_, fun j x hx => ?_⟩
 ·
  by_cases h : l.length ≤ j ∧ j < l.length + ys.length
  ·
   obtain ⟨i, rfl⟩ : ∃ i, j = l.length + i := ⟨j - l.length, by omega⟩
   rw [World.cell?_setCells_in g (nums .u8 ys) l.length w hin i (by rw [nums_length]; omega)]
   rfl
  ·
   rw [World.cell?_setCells_out g (nums .u8 ys) l.length w ⟨g, j, none⟩ (fun _ _ => by rw [nums_length]; show j < l.length ∨ l.length + ys.length ≤ j; omega)]
   exact h5 j hj
 ·
  rw [World.frozen?_setCells]; exact h6 j hj
 ·
  by_cases h : j < l.length
  ·
   rw [List.getElem?_append_left h] at hx
   rw [World.cell?_setCells_out g (nums .u8 ys) l.length w ⟨g, j, none⟩ (fun _ _ => .inl h)]
   exact h7 j x hx
  ·
   obtain ⟨i, rfl⟩ : ∃ i, j = l.length + i := ⟨j - l.length, by omega⟩
   rw [List.getElem?_append_right (by omega), Nat.add_sub_cancel_left] at hx
   have hi : i < ys.length := (List.getElem?_eq_some_iff.1 hx).1
   rw [World.cell?_setCells_in g (nums .u8 ys) l.length w hin i (by rw [nums_length]; exact hi)]
   simp [nums]
   have := (List.getElem?_eq_some_iff.1 hx).2
   exact this
theorem info_u8 : (Tryz.prog.info? 5).map (fun i => (i.zero, i.size, i.bytes)) = some (some (.int .u8 0), 1, 1) := by kernel_rfl
theorem BB.append_row {base : Nat} {w : World} {v : Value} {l ys : List Int} {A : Option Addr} {m c : Nat} (ty : TypeId) (h : BB base w v l) (hr : ReadsInt w .u8 A m ys) (hl : l.length + m ≤ 140737488355328) (hbase : base ≤ w.heap.size) :
  ∃ v1 w1, (Builtin.append_ #[124, 124] ty #[v, .slice A m c]).run Tryz.prog w = .ok v1 w1 ∧ BB base w1 v1 (l ++ ys) ∧ w.grownBy w1 v.ownBlock := by
 obtain ⟨i0, hi, hz0, hz1, hz2⟩ := info_parts info_u8
 have hm : ys.length = m := hr.1
 have h' := h
 obtain ⟨g, cap, rfl, h1, h2, h3, h4, h5, h6, h7⟩ := h
 rcases A with _ | ad
 ·
  have h0 : m = 0 := by
   rcases Nat.eq_zero_or_pos m with h0 | h0
   ·
    exact h0
   ·
    obtain ⟨ad, h, _⟩ := hr.2.2 h0
    cases h
  subst h0
  obtain rfl : ys = [] := List.eq_nil_of_length_eq_zero hm
  refine ⟨_, w, ?_, by simpa using h', World.grownBy.refl w _⟩
  simp [Builtin.append_, run_underlying Tryz.underlying124, sizeOf, typeInfo, hi, Builtin.lenOf, Builtin.firstCells, h3, storeCells]
 ·
  have hcells : ∀ j u, (nums .u8 ys)[j]? = some u → w.cell? (ad.add j) = some u := by
   intro j u hu
   have hj : j < ys.length := by
    rcases Nat.lt_or_ge j ys.length with h | h
    ·
     exact h
    ·
     simp [nums, List.getElem?_eq_none h] at hu
   obtain ⟨ad', hq, hc⟩ := hr.2.2 (by omega)
   obtain rfl := Option.some.inj hq
   have := hc j (by omega)
   simp [nums, List.getElem?_eq_getElem hj] at hu
   subst hu
   rw [this]
   simp [List.getD_eq_getElem?_getD, List.getElem?_eq_getElem hj]
  have hone : ∀ u ∈ nums .u8 ys, u.oneCell' = true := by intro u hu; simp only [nums, List.mem_map] at hu; obtain ⟨q, _, rfl⟩ := hu; rfl
  by_cases hroom : l.length + m ≤ cap
  ·
   have hrun := run_append_room_cells (P := Tryz.prog) w 124 ty 5 i0 Tryz.underlying124 hi g 0 l.length cap ad m c (nums .u8 ys) (by rw [nums_length, hz1, hm, Nat.mul_one]) hcells hone hroom
    (fun j hj => by rw [nums_length] at hj; rw [hz1]; simp only [Nat.zero_add, Nat.mul_one]; exact h5 _ (by omega)) (fun j hj => by rw [nums_length] at hj; rw [hz1]; simp only [Nat.zero_add, Nat.mul_one]; exact h6 _ (by omega))
   rw [hz1] at hrun
   refine ⟨_, _, hrun, ?_, grownBy_setCells _ _ _ _⟩
   have := h'.wrote (ys := ys) (by omega)
   rw [hm] at this
   exact this
  ·
   obtain ⟨v1, w1, hrun, hown, hg⟩ := run_append_arg_grows (P := Tryz.prog) w 124 ty 5 i0 (.int .u8 0) 1 1 Tryz.underlying124 hi hz0 hz1 hz2 rfl (by decide) ⟨g, 0, none⟩ l.length cap (nums .u8 l) (by rw [nums_length]; omega)
    (fun j u hu => by
     simp only [nums, List.getElem?_map, Option.map_eq_some_iff] at hu
     obtain ⟨x, hx, rfl⟩ := hu
     rw [add_plain]
     exact h7 j x hx) ad m c (nums .u8 ys) (by rw [nums_length]; omega) hcells (by omega) (by unfold maxLen; omega) (by omega)
   have hown' : w1.ownsRow w.heap.size 5 1 v1 (l ++ ys).length (nums .u8 (l ++ ys)) := by
    rw [List.length_append, hm, nums_append]; exact hown
   refine ⟨v1, w1, hrun, ?_, ⟨hg.os, hg.tape, hg.output, hg.size, fun k hk _ => hg.block k hk (by simp)⟩⟩
   refine BB.of_own (e := 5) (own_less hown' hbase) ?_
   intro hv
   rw [hv] at hown'
   have h1' := hown'.1
   have : (l ++ ys).length = 0 := by
    rcases hown'.2 with ⟨_, h0⟩ | ⟨_, _, _, h0, _⟩
    ·
     exact h0
    ·
     cases h0
   rw [List.length_append] at this
   omega
theorem BB.append_str {base : Nat} {w : World} {v : Value} {l : List Int} (ty : TypeId) (s : ByteArray) (h : BB base w v l) (hl : l.length + s.size ≤ 140737488355328) (hbase : base ≤ w.heap.size) :
  ∃ v1 w1, (Builtin.append_ #[124, 9] ty #[v, .string s]).run Tryz.prog w = .ok v1 w1 ∧ BB base w1 v1 (l ++ bytesOf s) ∧ w.grownBy w1 v.ownBlock := by
 obtain ⟨i0, hi, hz0, hz1, hz2⟩ := info_parts info_u8
 have h' := h
 obtain ⟨g, cap, rfl, h1, h2, h3, h4, h5, h6, h7⟩ := h
 have hsc : Lib.strCells s = nums .u8 (bytesOf s) := by simp [Lib.strCells, nums, bytesOf]
 by_cases hroom : l.length + s.size ≤ cap
 ·
  have hf := Lib.run_firstCells_string (P := Tryz.prog) w 1 s
  have hst := run_storeCells_cells (P := Tryz.prog) g l.length (Lib.strCells s) 0 w (fun j hj => by rw [Lib.strCells_length] at hj; exact h5 _ (by omega)) (fun j hj => by rw [Lib.strCells_length] at hj; exact h6 _ (by omega)) (Lib.strCells_oneCell s)
  simp only [Nat.add_zero] at hst
  refine ⟨.slice (some ⟨g, 0, none⟩) (l.length + s.size) cap, w.setCells g (0 + l.length * 1) (nums .u8 (bytesOf s)), ?_, ?_, grownBy_setCells _ _ _ _⟩
  ·
   rw [← hsc]
   simp [Builtin.append_, run_underlying Tryz.underlying124, run_underlying Tryz.underlying9, sizeOf, typeInfo, hi, hz1, Builtin.lenOf, hroom, hf, Addr.add_lit, hst]
  ·
   have := h'.wrote (ys := bytesOf s) (by rw [bytesOf_length]; exact hroom)
   rw [bytesOf_length] at this
   exact this
 ·
  have hlt : cap < l.length + s.size := by omega
  have hr := Lib.run_append_grow_string (P := Tryz.prog) w 124 9 ty 5 i0 (.int .u8 0) Tryz.underlying124 Tryz.underlying9 hi hz0 ⟨g, 0, none⟩ l.length cap (nums .u8 l) (by rw [nums_length, hz1]; omega)
   (fun j u hu => by
    simp only [nums, List.getElem?_map, Option.map_eq_some_iff] at hu
    obtain ⟨x, hx, rfl⟩ := hu
    rw [add_plain]
    exact h7 j x hx) s hlt (by omega) (by rw [hz2]; exact growslice_fits hlt (by omega))
  have hge := grownCap_ge w (l.length + s.size) cap 5
  have hcm : grownCap w (l.length + s.size) cap 5 ≤ maxLen := grownCap_le_maxLen w _ _ _ (by unfold maxLen; omega)
  refine ⟨_, _, hr, ?_, ⟨rfl, rfl, rfl, by simp, fun k hk _ => Go.heap_alloc_old w.drew _ hk⟩⟩
  refine BB.of_own (e := 5) ?_ (by simp)
  refine ⟨by rw [nums_length]; omega, .inr ⟨w.heap.size, _, _, ?_, hbase, heap_alloc_new w.drew _, ?_, hcm, ?_, ?_⟩⟩
  ·
   rw [List.length_append, bytesOf_length]
  ·
   rw [List.length_append, bytesOf_length]; exact hge
  ·
   have hz1 : (Value.int IntKind.u8 0).cells.size = 1 := rfl
   simp only [Array.size_append, List.size_toArray, size_zeroCells, hz1, nums_length, Lib.strCells_length]
   omega
  ·
   rw [hsc]
   simp only [Array.toList_append, List.append_assoc]
   rw [← List.append_assoc, ← nums_append]
   have : (l ++ bytesOf s).length * 1 = (nums .u8 (l ++ bytesOf s)).length := by rw [nums_length]; omega
   rw [this]
   exact List.take_left
section
variable {ops : Array Oper} {rest : List Oper} {o : Oper} {a : Act} {Q : Exit → Act → World → Prop}
theorem wpList_bb_row {base : Nat} {w : World} {v : Value} {l ys : List Int} {A : Option Addr} {m c : Nat} (hgd : o.guard = none) (s x : Operand) (ho : o.op = .call { callee := .builtin .append, args := #[s, x], argTypes := #[124, 124] }) (hs : a.eval s = v) (hx : a.eval x = .slice A m c)
  (h : BB base w v l) (hr : ReadsInt w .u8 A m ys) (hl : l.length + m ≤ 140737488355328) (hbase : base ≤ w.heap.size)
  (hK : ∀ v1 w1, BB base w1 v1 (l ++ ys) → w.grownBy w1 v.ownBlock → wpList Tryz.prog ops Q rest (a.put o.dst v1) w1) : wpList Tryz.prog ops Q (o :: rest) a w := by
 obtain ⟨v1, w1, hrun, hb, hg⟩ := h.append_row o.type hr hl hbase (c := c)
 refine wpList_plain hgd fun K hK' => ?_
 unfold Oper.wp execOp
 simp only [ho, resolve, invoke, builtin, Sem.run_bind, Sem.run_pure, Result.andThen_ok, List.map_toArray, List.map_cons, List.map_nil, hs, hx, hrun]
 exact hK' _ _ (hK v1 w1 hb hg)
theorem wpList_bb_one {base : Nat} {w : World} {v : Value} {l : List Int} {y : Int} (hgd : o.guard = none) (s x : Operand) (ho : o.op = .call { callee := .builtin .append, args := #[s, x], argTypes := #[124, 124] }) (hs : a.eval s = v) (hx : a.eval x = .slice (some ⟨w.heap.size, 0, none⟩) 1 1)
  (h : BB base w v l) (hl : l.length + 1 ≤ 140737488355328) (hbase : base ≤ w.heap.size)
  (hK : ∀ v1 w1, BB base w1 v1 (l ++ [y]) → w.grownBy w1 v.ownBlock → wpList Tryz.prog ops Q rest (a.put o.dst v1) w1) : wpList Tryz.prog ops Q (o :: rest) a (w.alloc (.cells #[.int .u8 y] 5)) := by
 refine wpList_bb_row hgd s x ho hs hx (h.alloc _) (ys := [y]) ⟨rfl, by decide, fun _ => ⟨_, rfl, fun j hj => ?_⟩⟩ hl (by simp; omega) (fun v1 w1 hb hg => hK v1 w1 hb (World.grownBy.trans (World.grownBy_alloc w _ _) hg))
 obtain rfl : j = 0 := by omega
 rw [add_plain]
 exact blk_cell (blk_new w _) 0
theorem wpList_bb_str {base : Nat} {w : World} {v : Value} {l : List Int} (str : ByteArray) (hgd : o.guard = none) (s x : Operand) (ho : o.op = .call { callee := .builtin .append, args := #[s, x], argTypes := #[124, 9] }) (hs : a.eval s = v) (hx : a.eval x = .string str)
  (h : BB base w v l) (hl : l.length + str.size ≤ 140737488355328) (hbase : base ≤ w.heap.size)
  (hK : ∀ v1 w1, BB base w1 v1 (l ++ bytesOf str) → w.grownBy w1 v.ownBlock → wpList Tryz.prog ops Q rest (a.put o.dst v1) w1) : wpList Tryz.prog ops Q (o :: rest) a w := by
 obtain ⟨v1, w1, hrun, hb, hg⟩ := h.append_str o.type str hl hbase
 refine wpList_plain hgd fun K hK' => ?_
 unfold Oper.wp execOp
 simp only [ho, resolve, invoke, builtin, Sem.run_bind, Sem.run_pure, Result.andThen_ok, List.map_toArray, List.map_cons, List.map_nil, hs, hx, hrun]
 exact hK' _ _ (hK v1 w1 hb hg)
end
theorem BB.str {base : Nat} {w : World} {v : Value} {l : List Int} (h : BB base w v l) : (convert 124 9 v).run Tryz.prog w = .ok (.string (strOfNums l)) w := by
 obtain ⟨A, c, rfl, hr⟩ := h.reads
 exact string_of_reads (P := Tryz.prog) Tryz.underlying124 Tryz.underlying5 Tryz.underlying9 hr
end Go.Proofs.YtopijobdblfhoaaGreat.Sa
end
section
namespace Go.Proofs.YtopijobdblfhoaaGreat.Sa
open Go.Proofs.YtopijobdblfhoaaGreat.Sm
open Go.RowKit Go.Proofs.YtopijobdblfhoaaGreatW.PrintWords Go.Proofs.YtopijobdblfhoaaGreatW.PrintLast
set_option linter.unusedVariables false
set_option linter.unusedSimpArgs false

set_option maxHeartbeats 4000000 in
set_option maxRecDepth 100000 in
theorem rfirst_c (w : World) : Calls Tryz.prog 91 #[] w fun e w' => e = .returned (u32s firstL) ∧ Below w.heap.size w w' := by
 go_enter Tryz.func91, Tryz.ntmps91
 go_wp2_with fail
 refine bodyPost_ret (v := u32s firstL) ?_ rfl ⟨rfl, (Below.refl _ _).alloc (Nat.le_refl _) _⟩
 simp [results, Tryz.results91, go_sem, u32s, firstL]
set_option maxHeartbeats 8000000 in
set_option maxRecDepth 100000 in
theorem rwords_c (w : World) : Calls Tryz.prog 108 #[] w fun e w' => e = .returned (u32s wordsL) ∧ Below w.heap.size w w' := by
 have hst := Lib.hid (run_storeAt_new (P := Tryz.prog) w 137 #[.int .u32 0, .int .u32 0, .int .u32 0, .int .u32 0, .int .u32 0, .int .u32 0, .int .u32 0, .int .u32 0, .int .u32 0, .int .u32 0, .int .u32 0, .int .u32 0, .int .u32 0, .int .u32 0, .int .u32 0, .int .u32 0, .int .u32 0, .int .u32 0, .int .u32 0, .int .u32 0, .int .u32 0, .int .u32 0, .int .u32 0, .int .u32 0, .int .u32 0, .int .u32 0, .int .u32 0, .int .u32 0, .int .u32 0, .int .u32 0, .int .u32 0, .int .u32 0, .int .u32 0, .int .u32 0, .int .u32 0, .int .u32 0, .int .u32 0, .int .u32 0, .int .u32 0, .int .u32 0, .int .u32 0, .int .u32 0, .int .u32 0, .int .u32 0, .int .u32 0, .int .u32 0, .int .u32 0, .int .u32 0, .int .u32 0, .int .u32 0, .int .u32 0, .int .u32 0, .int .u32 0, .int .u32 0, .int .u32 0, .int .u32 0, .int .u32 0, .int .u32 0, .int .u32 0, .int .u32 0, .int .u32 0, .int .u32 0, .int .u32 0, .int .u32 0] #[.int .u32 1116352408, .int .u32 1899447441, .int .u32 3049323471, .int .u32 3921009573, .int .u32 961987163, .int .u32 1508970993, .int .u32 2453635748, .int .u32 2870763221, .int .u32 3624381080, .int .u32 310598401, .int .u32 607225278, .int .u32 1426881987, .int .u32 1925078388, .int .u32 2162078206, .int .u32 2614888103, .int .u32 3248222580, .int .u32 3835390401, .int .u32 4022224774, .int .u32 264347078, .int .u32 604807628, .int .u32 770255983, .int .u32 1249150122, .int .u32 1555081692, .int .u32 1996064986, .int .u32 2554220882, .int .u32 2821834349, .int .u32 2952996808, .int .u32 3210313671, .int .u32 3336571891, .int .u32 3584528711, .int .u32 113926993, .int .u32 338241895, .int .u32 666307205, .int .u32 773529912, .int .u32 1294757372, .int .u32 1396182291, .int .u32 1695183700, .int .u32 1986661051, .int .u32 2177026350, .int .u32 2456956037, .int .u32 2730485921, .int .u32 2820302411, .int .u32 3259730800, .int .u32 3345764771, .int .u32 3516065817, .int .u32 3600352804, .int .u32 4094571909, .int .u32 275423344, .int .u32 430227734, .int .u32 506948616, .int .u32 659060556, .int .u32 883997877, .int .u32 958139571, .int .u32 1322822218, .int .u32 1537002063, .int .u32 1747873779, .int .u32 1955562222, .int .u32 2024104815, .int .u32 2227730452, .int .u32 2361852424, .int .u32 2428436474, .int .u32 2756734187, .int .u32 3204031479, .int .u32 3329325298] (by kernel_rfl) rfl (by kernel_rfl))
 go_enter Tryz.func108, Tryz.ntmps108
 go_wp2_with (first | (refine wpList_store_row _ _ rfl _ _ 137 rfl _ _ rfl rfl hst.out ?_) | go_in)
 refine bodyPost_ret (v := u32s wordsL) (results_row Tryz.results108 rfl (blk_new _ _) Tryz.underlying137 (by kernel_rfl)) rfl ⟨rfl, (Below.refl _ _).alloc (Nat.le_refl _) _⟩
end Go.Proofs.YtopijobdblfhoaaGreat.Sa
end
section
namespace Go.Proofs.YtopijobdblfhoaaGreat.Sa
open Go.Proofs.YtopijobdblfhoaaGreat.Sm
open Go.RowKit Go.Proofs.YtopijobdblfhoaaGreatW.PrintWords Go.Proofs.YtopijobdblfhoaaGreatW.PrintLast Go.Proofs.YtopijobdblfhoaaGreatW.PrintMore
set_option linter.unusedVariables false
set_option linter.unusedSimpArgs false

theorem ret_int {k : IntKind} {a b : Int} (h : a = b) : Ending.returned (.int k a) = .returned (.int k b) := by rw [h]
theorem two_pow_small {k : Nat} (h : k ≤ 31) : 2 ^ k ≤ 2147483648 := Nat.pow_le_pow_right (by decide) h
theorem rotI_nat {a : Nat} (h : a < 4294967296) (k : Nat) (h1 : 1 ≤ k) (h2 : k ≤ 31) : rotI (a : Int) k = ((a / 2 ^ k + (a % 2 ^ k) * 2 ^ (32 - k) : Nat) : Int) := by
 rw [rotI_sum ⟨by omega, by omega⟩ k h1 h2]
 simp
theorem low_small {a k j : Nat} (h1 : 1 ≤ k) (h2 : k ≤ 31) (hj : j ≤ 32 - k) : (a % 2 ^ k) * 2 ^ j < 4294967296 := by
 have hp : 2 ^ k * 2 ^ (32 - k) = 4294967296 := by rw [← Nat.pow_add, show k + (32 - k) = 32 by omega]
 have hm : a % 2 ^ k < 2 ^ k := Nat.mod_lt _ (Nat.two_pow_pos k)
 have hle : 2 ^ j ≤ 2 ^ (32 - k) := Nat.pow_le_pow_right (by decide) hj
 calc (a % 2 ^ k) * 2 ^ j < 2 ^ k * 2 ^ j := Nat.mul_lt_mul_of_pos_right hm (Nat.two_pow_pos _)
  _ ≤ 2 ^ k * 2 ^ (32 - k) := Nat.mul_le_mul_left _ hle
  _ = 4294967296 := hp
theorem rot_small {a : Nat} (h : a < 4294967296) (k : Nat) (h1 : 1 ≤ k) (h2 : k ≤ 31) : a / 2 ^ k + (a % 2 ^ k) * 2 ^ (32 - k) < 4294967296 := by
 have := (rotI_U (a : Int) k).2
 rw [rotI_nat h k h1 h2] at this
 omega
set_option maxHeartbeats 1000000 in
set_option maxRecDepth 100000 in
theorem rturn_n (a k : Nat) (ha : a < 4294967296) (h1 : 1 ≤ k) (h2 : k ≤ 31) (w : World) : Calls Tryz.prog 106 #[.int .u32 a, .int .i64 k] w fun e w' => e = .returned (.int .u32 (rotI a k)) ∧ w = w' := by
 rw [rotI_nat ha k h1 h2]
 go_enter Tryz.func106, Tryz.ntmps106
 go_wp2
 go_loop [5, 6] (fun p i => ∃ j : Nat, j ≤ k ∧ i = .int .i64 j ∧ p = .int .u32 ((2 ^ j : Nat) : Int)) (fun _ i => k - (intOf i).toNat)
 case atStart => exact ⟨0, Nat.zero_le _, rfl, rfl⟩
 case round =>
  obtain ⟨j, hj, rfl, rfl⟩ := hrel
  by_cases hlt : j < k
  ·
   have hb := two_pow_small (k := j + 1) (by omega)
   rw [Nat.pow_succ] at hb
   obtain ⟨P, hP⟩ : ∃ P, P = 2 ^ j := ⟨_, rfl⟩
   rw [← hP] at hb ⊢
   have HP := Lib.hid hP
   clear hP
   go_wp2
   go_round
   case rel => exact ⟨j + 1, by omega, by go_num, by rw [Nat.pow_succ, ← HP.out]; go_num⟩
   case measure => simp [intOf]; omega
  ·
   obtain rfl : j = k := by omega
   clear hlt hj
   have hb := two_pow_small (k := j) h2
   have hpos := Nat.two_pow_pos j
   obtain ⟨P, hP⟩ : ∃ P, P = 2 ^ j := ⟨_, rfl⟩
   have HS := Lib.hid (rot_small ha j h1 h2)
   have HL := Lib.hid (fun i (hi : i ≤ 32 - j) => low_small (a := a) h1 h2 hi)
   rw [← hP] at hb hpos HS HL ⊢
   have EP := Lib.hid hP
   clear hP
   obtain ⟨L, hL⟩ : ∃ L, L = a % P := ⟨_, rfl⟩
   rw [← hL] at HS HL
   have hL2 : ((a : Int) % (P : Int)) = (L : Int) := by rw [hL]; simp
   have EL := Lib.hid hL
   clear hL
   go_wp2
   go_loop [7, 8] (fun q i => ∃ m : Nat, m ≤ 32 - j ∧ i = .int .i64 m ∧ q = .int .u32 ((L * 2 ^ m : Nat) : Int)) (fun _ i => (32 - j) - (intOf i).toNat)
   case atStart => exact ⟨0, Nat.zero_le _, rfl, by simp⟩
   case round =>
    obtain ⟨m, hm, rfl, rfl⟩ := hrel
    by_cases hlt : m < 32 - j
    ·
     have hb2 := HL.out (m + 1) (by omega)
     rw [Nat.pow_succ, ← Nat.mul_assoc] at hb2
     obtain ⟨X, hX⟩ : ∃ X, X = L * 2 ^ m := ⟨_, rfl⟩
     rw [← hX] at hb2 ⊢
     have HX := Lib.hid hX
     clear hX
     go_wp2
     go_round
     case rel => exact ⟨m + 1, by omega, by go_num, by rw [Nat.pow_succ, ← Nat.mul_assoc, ← HX.out]; go_num⟩
     case measure => simp [intOf]; omega
    ·
     have em : 32 - j = m := by omega
     have hge : ¬ ((m : Int) < 32 - (j : Int)) := by omega
     rw [em] at HS
     have hs := HS.out
     have hs2 : (a : Int) / (P : Int) + ((L * 2 ^ m : Nat) : Int) < 4294967296 := by
      have : (a : Int) / (P : Int) = ((a / P : Nat) : Int) := by simp
      rw [this]; omega
     have hs1 : 0 ≤ (a : Int) / (P : Int) := Int.ediv_nonneg (by omega) (by omega)
     obtain ⟨X, hX⟩ : ∃ X, X = L * 2 ^ m := ⟨_, rfl⟩
     rw [← hX] at hs2 ⊢
     have EX := Lib.hid hX
     have EM := Lib.hid em
     clear hX hs hlt hm em HL
     go_wp2
     go_ret
     refine ⟨(ret_int ?_ : Ending.returned (.int .u32 ((a : Int) / (P : Int) + (X : Int))) = _), rfl⟩
     rw [EX.out, EM.out, EL.out, EP.out]
     simp
theorem rturn_c (x z : Int) (hx : U x) (h1 : 1 ≤ z) (h2 : z ≤ 31) (w : World) : Calls Tryz.prog 106 #[.int .u32 x, .int .i64 z] w fun e w' => e = .returned (.int .u32 (rotI x z.toNat)) ∧ w = w' := by
 obtain ⟨a, rfl⟩ := Int.eq_ofNat_of_zero_le hx.1
 have e : z = ((z.toNat : Nat) : Int) := by omega
 have c := rturn_n a z.toNat (by have := hx.2; omega) (by omega) (by omega) w
 rw [← e] at c
 exact c
set_option maxHeartbeats 1000000 in
set_option maxRecDepth 100000 in
theorem rover_n (a k : Nat) (hk : k ≤ 31) (ha : a < 4294967296) (w : World) : Calls Tryz.prog 107 #[.int .u32 a, .int .i64 k] w fun e w' => e = .returned (.int .u32 ((a / 2 ^ k : Nat) : Int)) ∧ w = w' := by
 go_enter Tryz.func107, Tryz.ntmps107
 go_wp2
 go_loop [0, 5] (fun p i => ∃ j : Nat, j ≤ k ∧ i = .int .i64 j ∧ p = .int .u32 ((a / 2 ^ j : Nat) : Int)) (fun _ i => k - (intOf i).toNat)
 case atStart => exact ⟨0, Nat.zero_le _, rfl, by simp⟩
 case round =>
  obtain ⟨j, hj, rfl, rfl⟩ := hrel
  by_cases hlt : j < k
  ·
   have hb : a / 2 ^ j < 4294967296 := Nat.lt_of_le_of_lt (Nat.div_le_self _ _) ha
   have hd : a / 2 ^ (j + 1) = a / 2 ^ j / 2 := by rw [Nat.pow_succ, Nat.div_div_eq_div_mul]
   obtain ⟨X, hX⟩ : ∃ X, X = a / 2 ^ j := ⟨_, rfl⟩
   rw [← hX] at hb hd ⊢
   have HD := Lib.hid hd
   clear hX hd
   go_wp2
   go_round
   case rel => exact ⟨j + 1, by omega, by go_num, by rw [HD.out]; go_num⟩
   case measure => simp [intOf]; omega
  ·
   obtain rfl : j = k := by omega
   go_wp2
   go_ret
   exact ⟨rfl, rfl⟩
theorem rover_c (x z : Int) (hx : U x) (h1 : 1 ≤ z) (h2 : z ≤ 31) (w : World) : Calls Tryz.prog 107 #[.int .u32 x, .int .i64 z] w fun e w' => e = .returned (.int .u32 (x / 2 ^ z.toNat)) ∧ w = w' := by
 obtain ⟨a, rfl⟩ := Int.eq_ofNat_of_zero_le hx.1
 have e : z = ((z.toNat : Nat) : Int) := by omega
 have c := rover_n a z.toNat (by omega) (by have := hx.2; omega) w
 rw [← e] at c
 simpa using c
end Go.Proofs.YtopijobdblfhoaaGreat.Sa
end
section
namespace Go.Proofs.YtopijobdblfhoaaGreat.Sa
open Go.Proofs.YtopijobdblfhoaaGreat.Sm
open Go.RowKit Go.Proofs.YtopijobdblfhoaaGreatW.PrintWords Go.Proofs.YtopijobdblfhoaaGreatW.PrintLast Go.Proofs.YtopijobdblfhoaaGreatW.PrintMore
set_option linter.unusedVariables false
set_option linter.unusedSimpArgs false

def lenOf : Value → Nat
 | .slice _ n _ => n
 | _ => 0
theorem lenOf_mk (A : Option Addr) (n c : Nat) : lenOf (.slice A n c) = n := rfl
def tT (n k : Nat) : List Int := (List.range k).map fun i => ((n * 8 / 256 ^ (k - 1 - i) % 256 : Nat) : Int)
theorem tT_succ (n k : Nat) : tT n (k + 1) = [((n * 8 / 256 ^ k % 256 : Nat) : Int)] ++ tT n k := by
 unfold tT
 rw [List.range_succ_eq_map]
 simp only [List.map_cons, List.map_map, Nat.add_sub_cancel, Nat.sub_zero, List.singleton_append]
 congr 1
 apply List.map_congr_left
 intro i hi
 have e : k - (i + 1) = k - 1 - i := by omega
 simp only [Function.comp, Nat.succ_eq_add_one, e]
theorem tT_length (n k : Nat) : (tT n k).length = k := by simp [tT]
theorem tT_bytes (n : Nat) : tT n 8 = (lenBytes n).map fun b => ((b.toNat : Nat) : Int) := by
 unfold tT lenBytes
 rw [List.map_map]
 apply List.map_congr_left
 intro i _
 simp only [Function.comp, UInt8.toNat_ofNat']
def padI (s : ByteArray) (j : Nat) : List Int := bytesOf s ++ [128] ++ List.replicate j 0
theorem padI_length (s : ByteArray) (j : Nat) : (padI s j).length = s.size + 1 + j := by simp [padI, bytesOf_length]; omega
theorem padI_succ (s : ByteArray) (j : Nat) : padI s j ++ [0] = padI s (j + 1) := by
 unfold padI
 rw [List.replicate_succ', List.append_assoc]
theorem strOf_size (l : List Int) : (strOfNums l).size = l.length := by
 show (l.map _).toArray.size = _
 simp
theorem pad_str (s : ByteArray) : strOfNums (padI s ((119 - s.size % 64) % 64)) ++ strOfNums (tT s.size 8) = padB s := by
 have e : padI s ((119 - s.size % 64) % 64) = (s.data.toList ++ 128 :: List.replicate ((119 - s.size % 64) % 64) 0).map fun b : UInt8 => ((b.toNat : Nat) : Int) := by
  unfold padI bytesOf
  simp
 rw [e, tT_bytes, str_bytes, str_bytes]
 unfold padB padL
 apply ByteArray.ext
 simp

set_option maxHeartbeats 8000000 in
set_option maxRecDepth 100000 in
theorem rpad_c (s : ByteArray) (hs : s.size ≤ 140737488351232) (w : World) :
  Calls Tryz.prog 92 #[.string s] w fun e w' => e = .returned (.string (padB s)) ∧ Below w.heap.size w w' := by
 have kb := fun W => print_bytes (P := Tryz.prog) 9 124 5 Tryz.underlying9 Tryz.underlying124 Tryz.underlying5 s W
 obtain ⟨z, hz⟩ : ∃ z, z = (119 - s.size % 64) % 64 := ⟨_, rfl⟩
 have HZ := Lib.hid hz
 have hz63 : z ≤ 63 := by omega
 clear hz
 go_enter Tryz.func92, Tryz.ntmps92
 go_wp2_with (at_builtin; refine wpList_bb_one (base := w.heap.size) rfl _ _ rfl rfl rfl (BB.of_bytes s (Nat.le_refl _) (by omega)) ?h1 ?h2 ?_)
 case h1 => rw [bytesOf_length]; omega
 case h2 => rw [Lib.bytesWorld_size]; omega
 intro v1 w1 hbb hg
 have HBB := Lib.hid hbb
 have HG := Lib.hid hg
 have HB1 := Lib.hid (show Below w.heap.size w w1 from (bytes_below (Below.refl w.heap.size w) (Nat.le_refl _) 5 s).grown hg (by rw [Lib.bytesWorld_size]; omega) (fun k hk => by simp only [Value.ownBlock, Option.some.injEq] at hk; omega))
 clear hbb hg kb
 go_wp2_with fail
 go_loopw [3] (fun v wr => ∃ (j : Nat) (A : Option Addr) (c : Nat), j ≤ z ∧ v = .slice A (s.size + 1 + j) c ∧ Hid (BB w.heap.size wr (.slice A (s.size + 1 + j) c) (padI s j)) ∧ Hid (Below w.heap.size w wr)) (fun v _ => s.size + 1 + z - lenOf v)
 case atStart =>
  obtain ⟨A, c, hv, _⟩ := HBB.out.reads
  have e : (bytesOf s ++ [128]).length = s.size + 1 + 0 := by simp [bytesOf_length]
  rw [e] at hv
  refine ⟨0, A, c, Nat.zero_le _, hv, Lib.hid ?_, HB1⟩
  rw [← hv]
  have := HBB.out
  simpa [padI] using this
 case round =>
  obtain ⟨j, A, c, hj, rfl, HBB2, HB⟩ := hrel
  clear HBB HG HB1
  by_cases hlt : j < z
  ·
   have hne : (((s.size : Int) + 1 + (j : Int)) % 64 != 56) = true := by have := HZ.out; rw [bne_iff_ne]; omega
   go_wp2_with (at_builtin; refine wpList_bb_one (base := w.heap.size) rfl _ _ rfl rfl rfl HBB2.out ?h3 ?h4 ?_)
   case h3 => rw [padI_length]; omega
   case h4 => exact HB.out.size
   intro v2 w2 hbb hg
   rw [padI_succ] at hbb
   obtain ⟨A2, c2, hv, _⟩ := hbb.reads
   rw [padI_length] at hv
   have HB2 := Lib.hid (HB.out.grown hg HB.out.size (fun k hk => HBB2.out.base k hk))
   have HBB3 := Lib.hid hbb
   clear hbb hg HBB2 HB
   have HV := Lib.hid hv
   clear hv
   go_wp2
   go_roundw
   case rel => exact ⟨j + 1, A2, c2, by omega, HV.out, by rw [← HV.out]; exact HBB3, HB2⟩
   case measure => rw [HV.out]; simp only [lenOf_mk, Array.getD_eq_getD_getElem?, List.getElem?_toArray, List.getElem?_cons_succ, List.getElem?_cons_zero, Option.getD_some]; omega
  ·
   obtain rfl : j = z := by omega
   have hne : (((s.size : Int) + 1 + (j : Int)) % 64 != 56) = false := by have := HZ.out; rw [bne_eq_false_iff_eq]; omega
   clear hlt hj
   obtain ⟨w3, rfl⟩ : ∃ w3 : World, w3 = wr := ⟨_, rfl⟩
   go_wp2_with fail
   clear hne
   go_loopw [4, 5, 6] (fun nv tv i wr => ∃ k : Nat, k ≤ 8 ∧ i = .int .i64 k ∧ nv = .int .u64 ((s.size * 8 / 256 ^ k : Nat) : Int) ∧ Hid (wr.ownsRow w.heap.size 5 1 tv (tT s.size k).length (nums .u8 (tT s.size k))) ∧ Hid (BB w.heap.size wr (.slice A (s.size + 1 + j) c) (padI s j)) ∧ Hid (Below w.heap.size w wr)) (fun _ _ i _ => 8 - (intOf i).toNat)
   case atStart => exact ⟨0, by omega, rfl, by simp, Lib.hid (own_nil _ _ _ _), HBB2, HB⟩
   case round =>
    clear HBB2 HB
    obtain ⟨k, hk, rfl, rfl, HO, HBB2, HB⟩ := hrel
    by_cases hlt : k < 8
    ·
     have hx : s.size * 8 / 256 ^ k < 18446744073709551616 := Nat.lt_of_le_of_lt (Nat.div_le_self _ _) (by omega)
     have hd : s.size * 8 / 256 ^ (k + 1) = s.size * 8 / 256 ^ k / 256 := by rw [Nat.pow_succ, Nat.div_div_eq_div_mul]
     obtain ⟨X, hX⟩ : ∃ X, X = s.size * 8 / 256 ^ k := ⟨_, rfl⟩
     rw [← hX] at hx hd ⊢
     have hts := tT_succ s.size k
     rw [← hX] at hts
     have HD := Lib.hid hd
     have HT := Lib.hid hts
     clear hX hd hts
     obtain ⟨At, ct, htv⟩ := own_slice HO.out
     rw [htv] at HO ⊢
     have HR := Lib.hid ((own_reads' HO.out).allocS (.cells #[.int .u8 ((X : Int) % 256)] 5))
     have HO1 := Lib.hid (own_lit wr w.heap.size 5 .u8 [(X : Int) % 256] HB.out.size (by show 1 ≤ _; decide))
     have HB1 := Lib.hid (HB.out.alloc HB.out.size (.cells #[.int .u8 ((X : Int) % 256)] 5))
     have HL := Lib.hid (tT_length s.size k)
     clear htv
     go_wp2_with (at_builtin; refine print_append_row (w0 := w) w.heap.size rfl (.tmp 30) (.tmp 31) 124 5 .u8 1 rfl Tryz.underlying124 info_u8 (by decide) (.slice (some ⟨wr.heap.size, 0, none⟩) 1 1) [(X : Int) % 256] (tT s.size k) At (tT s.size k).length ct rfl rfl HO1.out HR.out HB1.out ?h5 ?h6 ?_)
     case h5 => have := HB.out.size; simp; omega
     case h6 => rw [HL.out]; simp; omega
     intro v2 w2 hown hbel hg _
     have HBB3 := Lib.hid ((HBB2.out.alloc (.cells #[.int .u8 ((X : Int) % 256)] 5)).other hg (by
      obtain ⟨g, cap, he, _, hlt', _⟩ := HBB2.out
      rw [he]
      simp only [Value.ownBlock, ne_eq, Option.some.injEq]
      omega))
     have HO2 := Lib.hid hown
     have HB2 := Lib.hid hbel
     clear hown hbel hg HO1 HR HB1 HO HBB2 HB
     go_wp2_with fail
     go_roundw
     case rel =>
      have e : [(X : Int) % 256] ++ tT s.size k = tT s.size (k + 1) := by rw [HT.out]; simp
      have HO3 : w2.ownsRow w.heap.size 5 1 v2 (tT s.size (k + 1)).length (nums .u8 (tT s.size (k + 1))) := by rw [← e]; exact HO2.out
      exact ⟨k + 1, by omega, by go_num, by rw [HD.out]; go_num, Lib.hid HO3, HBB3, HB2⟩
     case measure => simp [intOf]; omega
    ·
     obtain rfl : k = 8 := by omega
     have h1 := HBB2.out.str
     have h2 := own_string (P := Tryz.prog) (src := 124) (dst := 9) Tryz.underlying124 Tryz.underlying5 Tryz.underlying9 HO.out
     have l1 : (strOfNums (padI s j)).size = s.size + 1 + j := by rw [strOf_size, padI_length]
     have l2 : (strOfNums (tT s.size 8)).size = 8 := by rw [strOf_size, tT_length]
     obtain ⟨S1, e1⟩ : ∃ S, S = strOfNums (padI s j) := ⟨_, rfl⟩
     obtain ⟨S2, e2⟩ : ∃ S, S = strOfNums (tT s.size 8) := ⟨_, rfl⟩
     rw [← e1] at h1 l1
     rw [← e2] at h2 l2
     have E1 := Lib.hid e1
     have E2 := Lib.hid e2
     have hov : ¬ 9223372036854775807 < S1.size + S2.size := by omega
     clear e1 e2 l1 l2 hlt hk
     go_wp2_with fail
     go_ret
     refine ⟨?_, HB.out⟩
     show Ending.returned (.string (S1 ++ S2)) = _
     rw [E1.out, E2.out, HZ.out, pad_str]
end Go.Proofs.YtopijobdblfhoaaGreat.Sa
end
section
namespace Go.Proofs.YtopijobdblfhoaaGreat.Sa
open Go.Proofs.YtopijobdblfhoaaGreat.Sm
open Go.RowKit Go.Proofs.YtopijobdblfhoaaGreatW.PrintWords Go.Proofs.YtopijobdblfhoaaGreatW.PrintLast Go.Proofs.YtopijobdblfhoaaGreatW.PrintMore
set_option linter.unusedVariables false
set_option linter.unusedSimpArgs false

section
variable {P : Program} {ops : Array Oper} {o : Oper} {a : Act} {Kc : Act → World → Prop} {Q' : Exit → Act → World → Prop}
theorem num_append_step {w0 W : World} (base : Nat) (hw : Region.wanted o (yielded ops a.tmps) = true) (s x : Operand) (t e : TypeId) (k : IntKind) (bytes : Nat)
  (ho : o.op = .call { callee := .builtin .append, args := #[s, x], argTypes := #[t, t] })
  (ht : P.underlying t = some (.slice e)) (hinfo : (P.info? e).map (fun i => (i.zero, i.size, i.bytes)) = some (some (.int k 0), 1, bytes)) (hb0 : 0 < bytes)
  (v : Value) (xs : List Int) (y : Int) (hs : a.eval s = v) (hx : a.eval x = .slice (some ⟨W.heap.size, 0, none⟩) 1 1)
  (HO : W.ownsRow base e 1 v xs.length (nums k xs)) (HB : Below base w0 W) (hbase : base ≤ W.heap.size) (hl : (xs.length + 1) * bytes ≤ 140737488355328)
  (h : ∀ v1 w1, w1.ownsRow base e 1 v1 (xs ++ [y]).length (nums k (xs ++ [y])) → Below base w0 w1 → W.grownBy w1 v.ownBlock → Kc (a.put o.dst v1) w1) :
  if Region.wanted o (yielded ops a.tmps) = true then Oper.wp P o a (W.alloc (.cells #[.int k y] e)) Kc Q' else Kc (a.put o.dst undef) (W.alloc (.cells #[.int k y] e)) := by
 obtain ⟨i0, hi, hzz⟩ := Option.map_eq_some_iff.1 hinfo
 simp only [Prod.mk.injEq] at hzz
 obtain ⟨hz0, hz1, hz2⟩ := hzz
 have hlen : xs.length + 1 ≤ 140737488355328 := Nat.le_trans (Nat.le_mul_of_pos_right _ hb0) hl
 obtain ⟨v1, w1, hr, h2, h3, _, h5⟩ := run_append_own_at (P := P) (W.alloc (.cells #[.int k y] e)) base t o.type e i0 (.int k 0) 1 bytes ht hi hz0 hz1 hz2 rfl (by omega) v xs.length (nums k xs) (HO.alloc _) ⟨W.heap.size, 0, none⟩ 1 1 [.int k y] rfl
  (World.news_of_block (cs := #[.int k y]) (t := e) (fr := (0, 0)) (Go.heap_alloc_new W _)) (by simp [Value.oneCell']) (by simp only [maxLen]; omega) hl (by simp; omega)
 rw [if_pos hw]
 unfold Oper.wp execOp
 simp only [ho, resolve, invoke, builtin, Sem.run_bind, Sem.run_pure, Result.andThen_ok, List.map_toArray, List.map_cons, List.map_nil, hs, hx, hr]
 exact h v1 w1 (by simpa [nums] using h2) ((HB.alloc hbase _).grown h3 (by simp; omega) (own_base HO)) (World.grownBy.trans (World.grownBy_alloc W _ _) h3)
end
structure RbW (w : World) (h : St) (w' : World) : Prop where
 b0 : w'.heap[w.heap.size]? = some (.cells (cellsU h.list) 120 (0, 0))
 b1 : w'.heap[w.heap.size + 1]? = some (.cells (cellsU [0, 0, 0, 0, 0, 0, 0, 0]) 120 (0, 0))
 bel : Below w.heap.size w w'
theorem RbW.drew {w w' : World} {h : St} (H : RbW w h w') : RbW w h w'.drew := ⟨H.b0, H.b1, below_drew H.bel⟩
theorem RbW.next {w W w1 : World} {h : St} {v : Value} {n : Nat} {xs : List Value} (H : RbW w h W) (ho : W.ownsRow w.heap.size 119 1 v n xs) (hg : W.grownBy w1 v.ownBlock) (hb : Below w.heap.size w w1) : RbW w h w1 :=
 ⟨blk_grown H.b0 hg (own_ne ho H.b0 (by decide)), blk_grown H.b1 hg (own_ne ho H.b1 (by decide)), hb⟩
theorem be_walk2 (b : ByteArray) (k : Nat) : IntKind.u32.wrap (IntKind.u32.wrap (IntKind.u32.wrap (IntKind.u32.wrap (IntKind.u32.wrap (byt b (4 * k)) * 16777216) + IntKind.u32.wrap (IntKind.u32.wrap (byt b (4 * k + 1)) * 65536)) + IntKind.u32.wrap (IntKind.u32.wrap (byt b (4 * k + 2)) * 256)) + IntKind.u32.wrap (byt b (4 * k + 3))) = be b k := by
 have h0 := byt_range b (4 * k); have h1 := byt_range b (4 * k + 1); have h2 := byt_range b (4 * k + 2); have h3 := byt_range b (4 * k + 3)
 simp only [IntKind.wrap_u32]
 unfold be
 omega
theorem next_walk2 (l : List Int) (m : Nat) (X15 X2 X16 X7 : Int) (h15 : X15 = l.getD (m - 15) 0) (h2 : X2 = l.getD (m - 2) 0) (h16 : X16 = l.getD (m - 16) 0) (h7 : X7 = l.getD (m - 7) 0) :
  IntKind.u32.wrap (IntKind.u32.wrap (IntKind.u32.wrap (X16 + bits BinOp.xor IntKind.u32 (bits BinOp.xor IntKind.u32 (rotI X15 7) (rotI X15 18)) (X15 / 8)) + X7) + bits BinOp.xor IntKind.u32 (bits BinOp.xor IntKind.u32 (rotI X2 17) (rotI X2 19)) (X2 / 1024)) = nextW l m := by
 subst h15 h2 h16 h7
 rfl
theorem cell_alloc {w : World} {a : Addr} {v : Value} (h : w.cell? a = some v) (o : Obj) : (w.alloc o).cell? a = some v := pw_cell_below ((Below.refl _ _).alloc (Nat.le_refl _) _) h
theorem run_sl (g n c i : Nat) (h : i < n) (z : Int) (hz : z = i) (w : World) : (Instr.indexAt 135 (.slice (some ⟨g, 0, none⟩) n c) (.int .i64 z)).run Tryz.prog w = .ok (.pointer (some ⟨g, i, none⟩)) w := by
 subst hz
 rw [run_indexAt_slice w 135 ⟨g, 0, none⟩ n c .i64 i (by kernel_rfl), if_pos ⟨by omega, by omega⟩]
 have hs : (sizeOf (Tryz.prog.elem 135)).run Tryz.prog w = .ok 1 w := by kernel_rfl
 rw [hs]
 simp [Result.andThen, add_plain]
theorem mix_walk (h st : St) (b : ByteArray) (e : st = rnds h wordsL (wsOf b) 64) : #[Value.int .u32 ((h.a + st.a) % 4294967296), .int .u32 ((h.b + st.b) % 4294967296), .int .u32 ((h.c + st.c) % 4294967296), .int .u32 ((h.d + st.d) % 4294967296), .int .u32 ((h.e + st.e) % 4294967296), .int .u32 ((h.f + st.f) % 4294967296), .int .u32 ((h.g + st.g) % 4294967296), .int .u32 ((h.h + st.h) % 4294967296)] = cellsU (mixS h b).list := by
 unfold mixS
 rw [← e]
 simp only [cellsU, addSt, St.list, IntKind.wrap_u32, List.map_cons, List.map_nil, Int.add_comm]
theorem info_u32 : (Tryz.prog.info? 119).map (fun i => (i.zero, i.size, i.bytes)) = some (some (.int .u32 0), 1, 4) := by kernel_rfl

set_option maxHeartbeats 8000000 in
set_option maxRecDepth 100000 in
theorem rblock_yes (h : St) (hU : h.U) (b : ByteArray) (hb : b.size = 64) (w : World) :
  Calls Tryz.prog 93 #[u32s h.list, .string b] w fun e w' => e = .returned (.tuple #[u32s (mixS h b).list, .int .i64 0]) ∧ Below w.heap.size w w' := by
 have HU := Lib.hid hU
 have HS := Lib.hid hb
 have hne : ((b.size : Int) != 64) = false := by rw [hb]; rfl
 clear hU hb
 show Calls _ _ #[.agg (cellsU h.list), .string b] _ _
 obtain ⟨hv, ehv⟩ : ∃ v, v = cellsU h.list := ⟨_, rfl⟩
 rw [← ehv]
 have EH := Lib.hid ehv
 clear ehv
 go_enter Tryz.func93, Tryz.ntmps93
 go_wp2_with fail
 clear hne
 go_loopw [6, 7] (fun v i wr => ∃ k : Nat, k ≤ 16 ∧ i = .int .i64 k ∧ Hid (wr.ownsRow w.heap.size 119 1 v (w16 b k).length (nums .u32 (w16 b k))) ∧ Hid (RbW w h wr)) (fun _ i _ => 16 - (intOf i).toNat)
 case atStart =>
  refine ⟨0, by omega, rfl, Lib.hid (own_nil _ _ _ _), Lib.hid ?_⟩
  have e1 := EH.out
  subst e1
  exact ⟨blk_alloc (new_ _ _ rfl) _, new_ _ _ (by simp), ((Below.refl _ _).alloc (Nat.le_refl _) _).alloc (by simp) _⟩
 case round =>
  obtain ⟨k, hk, rfl, HO, HW⟩ := hrel
  by_cases hlt : k < 16
  ·
   -- BEGIN A
   have hs := HS.out
   have g0 : 4 * k < b.size := by omega
   have g1 : 4 * k + 1 < b.size := by omega
   have g2 : 4 * k + 2 < b.size := by omega
   have g3 : 4 * k + 3 < b.size := by omega
   clear hs
   have q0 : IntKind.i64.wrap (4 * (k : Int)) = 4 * (k : Int) := (i64_w _).trans (Go.IntWalk.wrap64_in _ (by omega))
   have q1 : IntKind.i64.wrap (4 * (k : Int) + 1) = 4 * (k : Int) + 1 := (i64_w _).trans (Go.IntWalk.wrap64_in _ (by omega))
   have q2 : IntKind.i64.wrap (4 * (k : Int) + 2) = 4 * (k : Int) + 2 := (i64_w _).trans (Go.IntWalk.wrap64_in _ (by omega))
   have q3 : IntKind.i64.wrap (4 * (k : Int) + 3) = 4 * (k : Int) + 3 := (i64_w _).trans (Go.IntWalk.wrap64_in _ (by omega))
   have r0 := fun w => run_byt b (4 * k) g0 (4 * (k : Int)) (by omega) w
   have r1 := fun w => run_byt b (4 * k + 1) g1 (4 * (k : Int) + 1) (by omega) w
   have r2 := fun w => run_byt b (4 * k + 2) g2 (4 * (k : Int) + 2) (by omega) w
   have r3 := fun w => run_byt b (4 * k + 3) g3 (4 * (k : Int) + 3) (by omega) w
   clear g0 g1 g2 g3
   go_wp2_with fail
   have HO2 := Lib.hid (show wr.drew.ownsRow _ _ _ _ _ _ from HO.out)
   have HW2 := Lib.hid HW.out.drew
   have HL := Lib.hid (w16_length b k)
   clear HO HW
   refine start_ (n := 33) (S := fun w' : World => True) (ds := []) #[false, false, false, false, false, false, false, false, false, false, false, false, false, false, false, false, false, false, false, false, false, false, false, false, false, false, false, false, false, false, false, false, false] (by kernel_rfl) rfl rfl trivial (fun hHeld => ?_)
   generalize wr.drew = w2 at HO2 HW2 ⊢
   refine pure_ (i := 0) (N := some 36) (v := ?_) (a' := ?_) #[true, false, false, false, false, false, false, false, false, false, false, false, false, false, false, false, false, false, false, false, false, false, false, false, false, false, false, false, false, false, false, false, false] rfl rfl (by kernel_rfl) (fun _ _ _ h => h) (Or.inl ⟨by rfl, ?_⟩) ?_ ?_
   rotate_left
   ·
    intro w'
    go_simp
    with_reducible rfl
   rotate_left
   ·
    simp only [Act.put, List.setIfInBounds_toArray, List.set_cons_zero, List.set_cons_succ, i64_w, i32_w]
    rfl
   refine pure_ (i := 1) (N := some 37) (v := ?_) (a' := ?_) #[true, true, false, false, false, false, false, false, false, false, false, false, false, false, false, false, false, false, false, false, false, false, false, false, false, false, false, false, false, false, false, false, false] rfl rfl (by kernel_rfl) (fun _ _ _ h => h) (Or.inl ⟨by rfl, ?_⟩) ?_ ?_
   rotate_left
   ·
    intro w'
    go_simp
    with_reducible rfl
   rotate_left
   ·
    simp only [Act.put, List.setIfInBounds_toArray, List.set_cons_zero, List.set_cons_succ, i64_w, i32_w]
    rfl
   refine pure_ (i := 2) (N := some 38) (v := ?_) (a' := ?_) #[true, true, true, false, false, false, false, false, false, false, false, false, false, false, false, false, false, false, false, false, false, false, false, false, false, false, false, false, false, false, false, false, false] rfl rfl (by kernel_rfl) (fun _ _ _ h => h) (Or.inl ⟨by rfl, ?_⟩) ?_ ?_
   rotate_left
   ·
    intro w'
    go_simp
    with_reducible rfl
   rotate_left
   ·
    simp only [Act.put, List.setIfInBounds_toArray, List.set_cons_zero, List.set_cons_succ, i64_w, i32_w]
    rfl
   refine pure_ (i := 3) (N := some 39) (v := ?_) (a' := ?_) #[true, true, true, true, false, false, false, false, false, false, false, false, false, false, false, false, false, false, false, false, false, false, false, false, false, false, false, false, false, false, false, false, false] rfl rfl (by kernel_rfl) (fun _ _ _ h => h) (Or.inl ⟨by rfl, ?_⟩) ?_ ?_
   rotate_left
   ·
    intro w'
    go_simp
    with_reducible rfl
   rotate_left
   ·
    simp only [Act.put, List.setIfInBounds_toArray, List.set_cons_zero, List.set_cons_succ, i64_w, i32_w]
    rfl
   refine pure_ (i := 4) (N := some 40) (v := ?_) (a' := ?_) #[true, true, true, true, true, false, false, false, false, false, false, false, false, false, false, false, false, false, false, false, false, false, false, false, false, false, false, false, false, false, false, false, false] rfl rfl (by kernel_rfl) (fun _ _ _ h => h) (Or.inl ⟨by rfl, ?_⟩) ?_ ?_
   rotate_left
   ·
    intro w'
    go_simp
    with_reducible rfl
   rotate_left
   ·
    simp only [Act.put, List.setIfInBounds_toArray, List.set_cons_zero, List.set_cons_succ, i64_w, i32_w]
    rfl
   refine pure_ (i := 5) (N := some 41) (v := ?_) (a' := ?_) #[true, true, true, true, true, true, false, false, false, false, false, false, false, false, false, false, false, false, false, false, false, false, false, false, false, false, false, false, false, false, false, false, false] rfl rfl (by kernel_rfl) (fun _ _ _ h => h) (Or.inl ⟨by rfl, ?_⟩) ?_ ?_
   rotate_left
   ·
    intro w'
    go_simp
    with_reducible rfl
   rotate_left
   ·
    simp only [Act.put, List.setIfInBounds_toArray, List.set_cons_zero, List.set_cons_succ, i64_w, i32_w]
    rfl
   refine pure_ (i := 6) (N := some 42) (v := ?_) (a' := ?_) #[true, true, true, true, true, true, true, false, false, false, false, false, false, false, false, false, false, false, false, false, false, false, false, false, false, false, false, false, false, false, false, false, false] rfl rfl (by kernel_rfl) (fun _ _ _ h => h) (Or.inl ⟨by rfl, ?_⟩) ?_ ?_
   rotate_left
   ·
    intro w'
    go_simp
    with_reducible rfl
   rotate_left
   ·
    simp only [Act.put, List.setIfInBounds_toArray, List.set_cons_zero, List.set_cons_succ, i64_w, i32_w]
    rfl
   refine pure_ (i := 7) (N := some 43) (v := ?_) (a' := ?_) #[true, true, true, true, true, true, true, true, false, false, false, false, false, false, false, false, false, false, false, false, false, false, false, false, false, false, false, false, false, false, false, false, false] rfl rfl (by kernel_rfl) (fun _ _ _ h => h) (Or.inl ⟨by rfl, ?_⟩) ?_ ?_
   rotate_left
   ·
    intro w'
    go_simp
    with_reducible rfl
   rotate_left
   ·
    simp only [Act.put, List.setIfInBounds_toArray, List.set_cons_zero, List.set_cons_succ, i64_w, i32_w]
    rfl
   refine pure_ (i := 8) (N := some 44) (v := ?_) (a' := ?_) #[true, true, true, true, true, true, true, true, true, false, false, false, false, false, false, false, false, false, false, false, false, false, false, false, false, false, false, false, false, false, false, false, false] rfl rfl (by kernel_rfl) (fun _ _ _ h => h) (Or.inl ⟨by rfl, ?_⟩) ?_ ?_
   rotate_left
   ·
    intro w'
    go_simp
    with_reducible rfl
   rotate_left
   ·
    simp only [Act.put, List.setIfInBounds_toArray, List.set_cons_zero, List.set_cons_succ, i64_w, i32_w]
    rfl
   refine pure_ (i := 9) (N := some 45) (v := ?_) (a' := ?_) #[true, true, true, true, true, true, true, true, true, true, false, false, false, false, false, false, false, false, false, false, false, false, false, false, false, false, false, false, false, false, false, false, false] rfl rfl (by kernel_rfl) (fun _ _ _ h => h) (Or.inl ⟨by rfl, ?_⟩) ?_ ?_
   rotate_left
   ·
    intro w'
    go_simp
    with_reducible rfl
   rotate_left
   ·
    simp only [Act.put, List.setIfInBounds_toArray, List.set_cons_zero, List.set_cons_succ, i64_w, i32_w]
    rfl
   refine pure_ (i := 10) (N := some 46) (v := ?_) (a' := ?_) #[true, true, true, true, true, true, true, true, true, true, true, false, false, false, false, false, false, false, false, false, false, false, false, false, false, false, false, false, false, false, false, false, false] rfl rfl (by kernel_rfl) (fun _ _ _ h => h) (Or.inl ⟨by rfl, ?_⟩) ?_ ?_
   rotate_left
   ·
    intro w'
    go_simp
    with_reducible rfl
   rotate_left
   ·
    simp only [Act.put, List.setIfInBounds_toArray, List.set_cons_zero, List.set_cons_succ, i64_w, i32_w]
    rfl
   refine pure_ (i := 11) (N := some 47) (v := ?_) (a' := ?_) #[true, true, true, true, true, true, true, true, true, true, true, true, false, false, false, false, false, false, false, false, false, false, false, false, false, false, false, false, false, false, false, false, false] rfl rfl (by kernel_rfl) (fun _ _ _ h => h) (Or.inl ⟨by rfl, ?_⟩) ?_ ?_
   rotate_left
   ·
    intro w'
    go_simp
    with_reducible rfl
   rotate_left
   ·
    simp only [Act.put, List.setIfInBounds_toArray, List.set_cons_zero, List.set_cons_succ, i64_w, i32_w]
    rfl
   refine pure_ (i := 12) (N := some 48) (v := ?_) (a' := ?_) #[true, true, true, true, true, true, true, true, true, true, true, true, true, false, false, false, false, false, false, false, false, false, false, false, false, false, false, false, false, false, false, false, false] rfl rfl (by kernel_rfl) (fun _ _ _ h => h) (Or.inl ⟨by rfl, ?_⟩) ?_ ?_
   rotate_left
   ·
    intro w'
    go_simp
    with_reducible rfl
   rotate_left
   ·
    simp only [Act.put, List.setIfInBounds_toArray, List.set_cons_zero, List.set_cons_succ, i64_w, i32_w]
    rfl
   refine pure_ (i := 13) (N := some 49) (v := ?_) (a' := ?_) #[true, true, true, true, true, true, true, true, true, true, true, true, true, true, false, false, false, false, false, false, false, false, false, false, false, false, false, false, false, false, false, false, false] rfl rfl (by kernel_rfl) (fun _ _ _ h => h) (Or.inl ⟨by rfl, ?_⟩) ?_ ?_
   rotate_left
   ·
    intro w'
    go_simp
    with_reducible rfl
   rotate_left
   ·
    simp only [Act.put, List.setIfInBounds_toArray, List.set_cons_zero, List.set_cons_succ, i64_w, i32_w]
    rfl
   refine pure_ (i := 14) (N := some 50) (v := ?_) (a' := ?_) #[true, true, true, true, true, true, true, true, true, true, true, true, true, true, true, false, false, false, false, false, false, false, false, false, false, false, false, false, false, false, false, false, false] rfl rfl (by kernel_rfl) (fun _ _ _ h => h) (Or.inl ⟨by rfl, ?_⟩) ?_ ?_
   rotate_left
   ·
    intro w'
    go_simp
    with_reducible rfl
   rotate_left
   ·
    simp only [Act.put, List.setIfInBounds_toArray, List.set_cons_zero, List.set_cons_succ, i64_w, i32_w]
    rfl
   refine pure_ (i := 15) (N := some 51) (v := ?_) (a' := ?_) #[true, true, true, true, true, true, true, true, true, true, true, true, true, true, true, true, false, false, false, false, false, false, false, false, false, false, false, false, false, false, false, false, false] rfl rfl (by kernel_rfl) (fun _ _ _ h => h) (Or.inl ⟨by rfl, ?_⟩) ?_ ?_
   rotate_left
   ·
    intro w'
    go_simp
    with_reducible rfl
   rotate_left
   ·
    simp only [Act.put, List.setIfInBounds_toArray, List.set_cons_zero, List.set_cons_succ, i64_w, i32_w]
    rfl
   refine pure_ (i := 16) (N := some 52) (v := ?_) (a' := ?_) #[true, true, true, true, true, true, true, true, true, true, true, true, true, true, true, true, true, false, false, false, false, false, false, false, false, false, false, false, false, false, false, false, false] rfl rfl (by kernel_rfl) (fun _ _ _ h => h) (Or.inl ⟨by rfl, ?_⟩) ?_ ?_
   rotate_left
   ·
    intro w'
    go_simp
    with_reducible rfl
   rotate_left
   ·
    simp only [Act.put, List.setIfInBounds_toArray, List.set_cons_zero, List.set_cons_succ, i64_w, i32_w]
    rfl
   refine pure_ (i := 17) (N := some 53) (v := ?_) (a' := ?_) #[true, true, true, true, true, true, true, true, true, true, true, true, true, true, true, true, true, true, false, false, false, false, false, false, false, false, false, false, false, false, false, false, false] rfl rfl (by kernel_rfl) (fun _ _ _ h => h) (Or.inl ⟨by rfl, ?_⟩) ?_ ?_
   rotate_left
   ·
    intro w'
    go_simp
    with_reducible rfl
   rotate_left
   ·
    simp only [Act.put, List.setIfInBounds_toArray, List.set_cons_zero, List.set_cons_succ, i64_w, i32_w]
    rfl
   refine pure_ (i := 18) (N := some 54) (v := ?_) (a' := ?_) #[true, true, true, true, true, true, true, true, true, true, true, true, true, true, true, true, true, true, true, false, false, false, false, false, false, false, false, false, false, false, false, false, false] rfl rfl (by kernel_rfl) (fun _ _ _ h => h) (Or.inl ⟨by rfl, ?_⟩) ?_ ?_
   rotate_left
   ·
    intro w'
    go_simp
    with_reducible rfl
   rotate_left
   ·
    simp only [Act.put, List.setIfInBounds_toArray, List.set_cons_zero, List.set_cons_succ, i64_w, i32_w]
    rfl
   refine pure_ (i := 19) (N := some 55) (v := ?_) (a' := ?_) #[true, true, true, true, true, true, true, true, true, true, true, true, true, true, true, true, true, true, true, true, false, false, false, false, false, false, false, false, false, false, false, false, false] rfl rfl (by kernel_rfl) (fun _ _ _ h => h) (Or.inl ⟨by rfl, ?_⟩) ?_ ?_
   rotate_left
   ·
    intro w'
    go_simp
    with_reducible rfl
   rotate_left
   ·
    simp only [Act.put, List.setIfInBounds_toArray, List.set_cons_zero, List.set_cons_succ, i64_w, i32_w]
    rfl
   refine pure_ (i := 20) (N := some 56) (v := ?_) (a' := ?_) #[true, true, true, true, true, true, true, true, true, true, true, true, true, true, true, true, true, true, true, true, true, false, false, false, false, false, false, false, false, false, false, false, false] rfl rfl (by kernel_rfl) (fun _ _ _ h => h) (Or.inl ⟨by rfl, ?_⟩) ?_ ?_
   rotate_left
   ·
    intro w'
    go_simp
    with_reducible rfl
   rotate_left
   ·
    simp only [Act.put, List.setIfInBounds_toArray, List.set_cons_zero, List.set_cons_succ, i64_w, i32_w]
    rfl
   refine pure_ (i := 21) (N := some 57) (v := ?_) (a' := ?_) #[true, true, true, true, true, true, true, true, true, true, true, true, true, true, true, true, true, true, true, true, true, true, false, false, false, false, false, false, false, false, false, false, false] rfl rfl (by kernel_rfl) (fun _ _ _ h => h) (Or.inl ⟨by rfl, ?_⟩) ?_ ?_
   rotate_left
   ·
    intro w'
    go_simp
    with_reducible rfl
   rotate_left
   ·
    simp only [Act.put, List.setIfInBounds_toArray, List.set_cons_zero, List.set_cons_succ, i64_w, i32_w]
    rfl
   refine pure_ (i := 22) (N := some 58) (v := ?_) (a' := ?_) #[true, true, true, true, true, true, true, true, true, true, true, true, true, true, true, true, true, true, true, true, true, true, true, false, false, false, false, false, false, false, false, false, false] rfl rfl (by kernel_rfl) (fun _ _ _ h => h) (Or.inl ⟨by rfl, ?_⟩) ?_ ?_
   rotate_left
   ·
    intro w'
    go_simp
    with_reducible rfl
   rotate_left
   ·
    simp only [Act.put, List.setIfInBounds_toArray, List.set_cons_zero, List.set_cons_succ, i64_w, i32_w]
    rfl
   refine pure_ (i := 23) (N := some 59) (v := ?_) (a' := ?_) #[true, true, true, true, true, true, true, true, true, true, true, true, true, true, true, true, true, true, true, true, true, true, true, true, false, false, false, false, false, false, false, false, false] rfl rfl (by kernel_rfl) (fun _ _ _ h => h) (Or.inl ⟨by rfl, ?_⟩) ?_ ?_
   rotate_left
   ·
    intro w'
    go_simp
    with_reducible rfl
   rotate_left
   ·
    simp only [Act.put, List.setIfInBounds_toArray, List.set_cons_zero, List.set_cons_succ, i64_w, i32_w]
    rfl
   refine pure_ (i := 24) (N := some 60) (v := ?_) (a' := ?_) #[true, true, true, true, true, true, true, true, true, true, true, true, true, true, true, true, true, true, true, true, true, true, true, true, true, false, false, false, false, false, false, false, false] rfl rfl (by kernel_rfl) (fun _ _ _ h => h) (Or.inl ⟨by rfl, ?_⟩) ?_ ?_
   rotate_left
   ·
    intro w'
    go_simp
    with_reducible rfl
   rotate_left
   ·
    simp only [Act.put, List.setIfInBounds_toArray, List.set_cons_zero, List.set_cons_succ, i64_w, i32_w]
    rfl
   refine pure_ (i := 25) (N := some 61) (v := ?_) (a' := ?_) #[true, true, true, true, true, true, true, true, true, true, true, true, true, true, true, true, true, true, true, true, true, true, true, true, true, true, false, false, false, false, false, false, false] rfl rfl (by kernel_rfl) (fun _ _ _ h => h) (Or.inl ⟨by rfl, ?_⟩) ?_ ?_
   rotate_left
   ·
    intro w'
    go_simp
    with_reducible rfl
   rotate_left
   ·
    simp only [Act.put, List.setIfInBounds_toArray, List.set_cons_zero, List.set_cons_succ, i64_w, i32_w]
    rfl
   refine pure_ (i := 26) (N := some 62) (v := ?_) (a' := ?_) #[true, true, true, true, true, true, true, true, true, true, true, true, true, true, true, true, true, true, true, true, true, true, true, true, true, true, true, false, false, false, false, false, false] rfl rfl (by kernel_rfl) (fun _ _ _ h => h) (Or.inl ⟨by rfl, ?_⟩) ?_ ?_
   rotate_left
   ·
    intro w'
    go_simp
    with_reducible rfl
   rotate_left
   ·
    simp only [Act.put, List.setIfInBounds_toArray, List.set_cons_zero, List.set_cons_succ, i64_w, i32_w]
    rfl
   refine pure_ (i := 27) (N := some 63) (v := ?_) (a' := ?_) #[true, true, true, true, true, true, true, true, true, true, true, true, true, true, true, true, true, true, true, true, true, true, true, true, true, true, true, true, false, false, false, false, false] rfl rfl (by kernel_rfl) (fun _ _ _ h => h) (Or.inl ⟨by rfl, ?_⟩) ?_ ?_
   rotate_left
   ·
    intro w'
    go_simp
    with_reducible rfl
   rotate_left
   ·
    simp only [Act.put, List.setIfInBounds_toArray, List.set_cons_zero, List.set_cons_succ, i64_w, i32_w]
    rfl
   refine pure_ (i := 28) (N := some 64) (v := ?_) (a' := ?_) #[true, true, true, true, true, true, true, true, true, true, true, true, true, true, true, true, true, true, true, true, true, true, true, true, true, true, true, true, true, false, false, false, false] rfl rfl (by kernel_rfl) (fun _ _ _ h => h) (Or.inl ⟨by rfl, ?_⟩) ?_ ?_
   rotate_left
   ·
    intro w'
    go_simp
    with_reducible rfl
   rotate_left
   ·
    simp only [Act.put, List.setIfInBounds_toArray, List.set_cons_zero, List.set_cons_succ, i64_w, i32_w]
    rfl
   refine pure_ (i := 29) (N := some 65) (v := ?_) (a' := ?_) #[true, true, true, true, true, true, true, true, true, true, true, true, true, true, true, true, true, true, true, true, true, true, true, true, true, true, true, true, true, true, false, false, false] rfl rfl (by kernel_rfl) (fun _ _ _ h => h) (Or.inl ⟨by rfl, ?_⟩) ?_ ?_
   rotate_left
   ·
    intro w'
    go_simp
    with_reducible rfl
   rotate_left
   ·
    simp only [Act.put, List.setIfInBounds_toArray, List.set_cons_zero, List.set_cons_succ, i64_w, i32_w]
    rfl
   refine one_ (i := 30) (N := some 66) #[true, true, true, true, true, true, true, true, true, true, true, true, true, true, true, true, true, true, true, true, true, true, true, true, true, true, true, true, true, true, true, false, false] rfl rfl (by kernel_rfl) (by decide) (fun K hK => ?_)
   refine value_ (v := ?_) (w1 := ?_) (by rfl) rfl ?_ ?_
   rotate_left
   rotate_left
   ·
    go_simp
    first | rfl | (constructor <;> rfl)
   refine hK.out _ _ trivial (fun hHeld => ?_)
   clear hK K
   refine norm_ (a' := ?_) ?_ ?_
   rotate_left
   ·
    show Act.put _ (some 66) _ = _
    simp only [Act.put, List.setIfInBounds_toArray, List.set_cons_zero, List.set_cons_succ, i64_w, i32_w]
    rfl
   refine one_ (i := 31) (N := some 67) #[true, true, true, true, true, true, true, true, true, true, true, true, true, true, true, true, true, true, true, true, true, true, true, true, true, true, true, true, true, true, true, true, false] rfl rfl (by kernel_rfl) (by decide) (fun K hK => ?_)
   refine num_append_step (w0 := w) w.heap.size (by rfl) (.tmp 36) (.tmp 66) 135 119 .u32 4 rfl Tryz.underlying135 info_u32 (by decide) _ (w16 b k) _ rfl rfl HO2.out HW2.out.bel HW2.out.bel.size (by rw [HL.out]; omega) ?_
   intro v1 w3 hown hbel hg
   have HO3 := Lib.hid hown
   have HW3 := Lib.hid (HW2.out.next HO2.out hg hbel)
   clear hown hbel hg HO2 HW2
   refine hK.out _ _ trivial (fun hHeld => ?_)
   clear hK K
   refine norm_ (a' := ?_) ?_ ?_
   rotate_left
   ·
    show Act.put _ (some 67) _ = _
    simp only [Act.put, List.setIfInBounds_toArray, List.set_cons_zero, List.set_cons_succ, i64_w, i32_w]
    rfl
   refine pure_ (i := 32) (N := some 6) (v := ?_) (a' := ?_) #[true, true, true, true, true, true, true, true, true, true, true, true, true, true, true, true, true, true, true, true, true, true, true, true, true, true, true, true, true, true, true, true, true] rfl rfl (by kernel_rfl) (fun _ _ _ h => h) (Or.inl ⟨by rfl, ?_⟩) ?_ ?_
   rotate_left
   ·
    intro w'
    go_simp
    with_reducible rfl
   rotate_left
   ·
    simp only [Act.put, List.setIfInBounds_toArray, List.set_cons_zero, List.set_cons_succ, i64_w, i32_w]
    rfl
   refine done_ (by kernel_rfl) ?_
   rw [be_walk2, ← w16_succ] at HO3
   go_wp2_with fail
   go_roundw
   case rel => exact ⟨k + 1, by omega, by go_num, HO3, HW3⟩
   case measure => simp [intOf]; omega
   -- END A
  ·
   obtain rfl : k = 16 := by omega
   clear hlt hk
   obtain ⟨w1, rfl⟩ : ∃ w1 : World, w1 = wr := ⟨_, rfl⟩
   go_wp2_with fail
   go_loopw [6, 8] (fun v i wr => ∃ m : Nat, 16 ≤ m ∧ m ≤ 64 ∧ i = .int .i64 m ∧ Hid (wr.ownsRow w.heap.size 119 1 v (sched (w16 b 16) (m - 16)).length (nums .u32 (sched (w16 b 16) (m - 16)))) ∧ Hid (RbW w h wr)) (fun _ i _ => 64 - (intOf i).toNat)
   case atStart => exact ⟨16, by omega, by omega, rfl, HO, HW⟩
   case round =>
    clear HO HW
    obtain ⟨m, hm1, hm2, rfl, HO, HW⟩ := hrel
    have hlen : (sched (w16 b 16) (m - 16)).length = m := by rw [sched_length, w16_length]; omega
    have hU : ∀ x ∈ sched (w16 b 16) (m - 16), U x := sched_U (w16_U b 16) _
    obtain ⟨g, cap, hv, hgb, hgl⟩ := HO.out.form (by omega)
    rw [hv, hlen] at HO
    rw [hv]
    rw [hlen]
    have HL := Lib.hid hlen
    by_cases hlt : m < 64
    ·
     -- BEGIN B
     have cc : ∀ j, j < m → wr.cell? ⟨g, j, none⟩ = some (.int .u32 ((sched (w16 b 16) (m - 16)).getD j 0)) := fun j hj => by
      have := (own_at HO.out (j : Int) (by omega) (by omega)).1
      simpa [rd] using this
     obtain ⟨X15, e15⟩ : ∃ X, X = (sched (w16 b 16) (m - 16)).getD (m - 15) 0 := ⟨_, rfl⟩
     obtain ⟨X2, e2⟩ : ∃ X, X = (sched (w16 b 16) (m - 16)).getD (m - 2) 0 := ⟨_, rfl⟩
     obtain ⟨X16, e16⟩ : ∃ X, X = (sched (w16 b 16) (m - 16)).getD (m - 16) 0 := ⟨_, rfl⟩
     obtain ⟨X7, e7⟩ : ∃ X, X = (sched (w16 b 16) (m - 16)).getD (m - 7) 0 := ⟨_, rfl⟩
     have c15 := cc (m - 15) (by omega)
     have c2 := cc (m - 2) (by omega)
     have c16 := cc (m - 16) (by omega)
     have c7 := cc (m - 7) (by omega)
     rw [← e15] at c15
     rw [← e2] at c2
     rw [← e16] at c16
     rw [← e7] at c7
     have u15 : U X15 := by rw [e15]; exact getD_U hU _
     have u2 : U X2 := by rw [e2]; exact getD_U hU _
     have E15 := Lib.hid e15
     have E2 := Lib.hid e2
     have E16 := Lib.hid e16
     have E7 := Lib.hid e7
     clear e15 e2 e16 e7 cc hlen hU hv
     have q16 : IntKind.i64.wrap ((m : Int) - 16) = (m : Int) - 16 := (i64_w _).trans (Go.IntWalk.wrap64_in _ (by omega))
     have q7 : IntKind.i64.wrap ((m : Int) - 7) = (m : Int) - 7 := (i64_w _).trans (Go.IntWalk.wrap64_in _ (by omega))
     have r15 := fun w' => run_sl g m cap (m - 15) (by omega) ((m : Int) - 15) (by omega) w'
     have r2 := fun w' => run_sl g m cap (m - 2) (by omega) ((m : Int) - 2) (by omega) w'
     have r16 := fun w' => run_sl g m cap (m - 16) (by omega) ((m : Int) - 16) (by omega) w'
     have r7 := fun w' => run_sl g m cap (m - 7) (by omega) ((m : Int) - 7) (by omega) w'
     go_wp2_with (first | (go_at_call 106; refine (rturn_c _ _ (by assumption) (by decide) (by decide) _).mono ?_; rintro e w4 ⟨rfl, rfl⟩) | (go_at_call 107; refine (rover_c _ _ (by assumption) (by decide) (by decide) _).mono ?_; rintro e w4 ⟨rfl, rfl⟩))
     clear c15 c2 r15 r2 u15 u2
     refine start_ (n := 19) (S := fun w' : World => w'.cell? ⟨g, m - 16, none⟩ = some (.int .u32 X16) ∧ w'.cell? ⟨g, m - 7, none⟩ = some (.int .u32 X7)) (ds := [17]) #[false, false, false, false, false, false, false, false, false, false, false, false, false, false, false, false, false, false, false] (by kernel_rfl) rfl rfl ⟨c16, c7⟩ (fun hHeld => ?_)
     have HO2 := Lib.hid (show wr.drew.ownsRow _ _ _ _ _ _ from HO.out)
     have HW2 := Lib.hid HW.out.drew
     have b16 : wr.drew.cell? ⟨g, m - 16, none⟩ = some (.int .u32 X16) := c16
     have b7 : wr.drew.cell? ⟨g, m - 7, none⟩ = some (.int .u32 X7) := c7
     clear HO HW c16 c7
     generalize wr.drew = w2 at HO2 HW2 hHeld b16 b7 ⊢
     refine pure_ (i := 0) (N := some 98) (v := ?_) (a' := ?_) #[true, false, false, false, false, false, false, false, false, false, false, false, false, false, false, false, false, false, false] rfl rfl (by kernel_rfl) (fun _ _ _ h => h) (Or.inl ⟨by rfl, ?_⟩) ?_ ?_
     rotate_left
     ·
      intro w'
      go_simp
      with_reducible rfl
     rotate_left
     ·
      simp only [Act.put, List.setIfInBounds_toArray, List.set_cons_zero, List.set_cons_succ, i64_w, i32_w]
      rfl
     refine pure_ (i := 1) (N := some 99) (v := ?_) (a' := ?_) #[true, true, false, false, false, false, false, false, false, false, false, false, false, false, false, false, false, false, false] rfl rfl (by kernel_rfl) (fun _ _ _ h => h) (Or.inl ⟨by rfl, ?_⟩) ?_ ?_
     rotate_left
     ·
      intro w'
      go_simp
      with_reducible rfl
     rotate_left
     ·
      simp only [Act.put, List.setIfInBounds_toArray, List.set_cons_zero, List.set_cons_succ, i64_w, i32_w]
      rfl
     refine pure_ (i := 2) (N := some 100) (v := ?_) (a' := ?_) #[true, true, true, false, false, false, false, false, false, false, false, false, false, false, false, false, false, false, false] rfl rfl (by kernel_rfl) (fun _ _ _ h => h) (Or.inl ⟨by rfl, ?_⟩) ?_ ?_
     rotate_left
     ·
      intro w'
      go_simp
      with_reducible rfl
     rotate_left
     ·
      simp only [Act.put, List.setIfInBounds_toArray, List.set_cons_zero, List.set_cons_succ, i64_w, i32_w]
      rfl
     refine pure_ (i := 3) (N := some 101) (v := ?_) (a' := ?_) #[true, true, true, true, false, false, false, false, false, false, false, false, false, false, false, false, false, false, false] rfl rfl (by kernel_rfl) (fun _ _ _ h => h) (Or.inl ⟨by rfl, ?_⟩) ?_ ?_
     rotate_left
     ·
      intro w'
      go_simp
      with_reducible rfl
     rotate_left
     ·
      simp only [Act.put, List.setIfInBounds_toArray, List.set_cons_zero, List.set_cons_succ, i64_w, i32_w]
      rfl
     refine pure_ (i := 4) (N := some 102) (v := ?_) (a' := ?_) #[true, true, true, true, true, false, false, false, false, false, false, false, false, false, false, false, false, false, false] rfl rfl (by kernel_rfl) (fun _ _ _ h => h) (Or.inl ⟨by rfl, ?_⟩) ?_ ?_
     rotate_left
     ·
      intro w'
      go_simp
      with_reducible rfl
     rotate_left
     ·
      simp only [Act.put, List.setIfInBounds_toArray, List.set_cons_zero, List.set_cons_succ, i64_w, i32_w]
      rfl
     refine take_ (i := 5) (N := some 103) (v := ?_) (a' := ?_) #[true, true, true, true, true, true, false, false, false, false, false, false, false, false, false, false, false, false, false] rfl rfl (by kernel_rfl) (fun _ _ _ h => h) (Or.inl ⟨by rfl, ?_⟩) hHeld ?_ ?_
     rotate_left
     ·
      rintro w' ⟨s0, s1⟩
      go_simp
      with_reducible rfl
     rotate_left
     ·
      simp only [Act.put, List.setIfInBounds_toArray, List.set_cons_zero, List.set_cons_succ, i64_w, i32_w]
      rfl
     refine pure_ (i := 6) (N := some 104) (v := ?_) (a' := ?_) #[true, true, true, true, true, true, true, false, false, false, false, false, false, false, false, false, false, false, false] rfl rfl (by kernel_rfl) (fun _ _ _ h => h) (Or.inl ⟨by rfl, ?_⟩) ?_ ?_
     rotate_left
     ·
      intro w'
      go_simp
      with_reducible rfl
     rotate_left
     ·
      simp only [Act.put, List.setIfInBounds_toArray, List.set_cons_zero, List.set_cons_succ, i64_w, i32_w]
      rfl
     refine pure_ (i := 7) (N := some 105) (v := ?_) (a' := ?_) #[true, true, true, true, true, true, true, true, false, false, false, false, false, false, false, false, false, false, false] rfl rfl (by kernel_rfl) (fun _ _ _ h => h) (Or.inl ⟨by rfl, ?_⟩) ?_ ?_
     rotate_left
     ·
      intro w'
      go_simp
      with_reducible rfl
     rotate_left
     ·
      simp only [Act.put, List.setIfInBounds_toArray, List.set_cons_zero, List.set_cons_succ, i64_w, i32_w]
      rfl
     refine pure_ (i := 8) (N := some 106) (v := ?_) (a' := ?_) #[true, true, true, true, true, true, true, true, true, false, false, false, false, false, false, false, false, false, false] rfl rfl (by kernel_rfl) (fun _ _ _ h => h) (Or.inl ⟨by rfl, ?_⟩) ?_ ?_
     rotate_left
     ·
      intro w'
      go_simp
      with_reducible rfl
     rotate_left
     ·
      simp only [Act.put, List.setIfInBounds_toArray, List.set_cons_zero, List.set_cons_succ, i64_w, i32_w]
      rfl
     refine pure_ (i := 9) (N := some 107) (v := ?_) (a' := ?_) #[true, true, true, true, true, true, true, true, true, true, false, false, false, false, false, false, false, false, false] rfl rfl (by kernel_rfl) (fun _ _ _ h => h) (Or.inl ⟨by rfl, ?_⟩) ?_ ?_
     rotate_left
     ·
      intro w'
      go_simp
      with_reducible rfl
     rotate_left
     ·
      simp only [Act.put, List.setIfInBounds_toArray, List.set_cons_zero, List.set_cons_succ, i64_w, i32_w]
      rfl
     refine pure_ (i := 10) (N := some 108) (v := ?_) (a' := ?_) #[true, true, true, true, true, true, true, true, true, true, true, false, false, false, false, false, false, false, false] rfl rfl (by kernel_rfl) (fun _ _ _ h => h) (Or.inl ⟨by rfl, ?_⟩) ?_ ?_
     rotate_left
     ·
      intro w'
      go_simp
      with_reducible rfl
     rotate_left
     ·
      simp only [Act.put, List.setIfInBounds_toArray, List.set_cons_zero, List.set_cons_succ, i64_w, i32_w]
      rfl
     refine pure_ (i := 11) (N := some 109) (v := ?_) (a' := ?_) #[true, true, true, true, true, true, true, true, true, true, true, true, false, false, false, false, false, false, false] rfl rfl (by kernel_rfl) (fun _ _ _ h => h) (Or.inl ⟨by rfl, ?_⟩) ?_ ?_
     rotate_left
     ·
      intro w'
      go_simp
      with_reducible rfl
     rotate_left
     ·
      simp only [Act.put, List.setIfInBounds_toArray, List.set_cons_zero, List.set_cons_succ, i64_w, i32_w]
      rfl
     refine take_ (i := 12) (N := some 110) (v := ?_) (a' := ?_) #[true, true, true, true, true, true, true, true, true, true, true, true, true, false, false, false, false, false, false] rfl rfl (by kernel_rfl) (fun _ _ _ h => h) (Or.inl ⟨by rfl, ?_⟩) hHeld ?_ ?_
     rotate_left
     ·
      rintro w' ⟨s0, s1⟩
      go_simp
      with_reducible rfl
     rotate_left
     ·
      simp only [Act.put, List.setIfInBounds_toArray, List.set_cons_zero, List.set_cons_succ, i64_w, i32_w]
      rfl
     refine pure_ (i := 13) (N := some 111) (v := ?_) (a' := ?_) #[true, true, true, true, true, true, true, true, true, true, true, true, true, true, false, false, false, false, false] rfl rfl (by kernel_rfl) (fun _ _ _ h => h) (Or.inl ⟨by rfl, ?_⟩) ?_ ?_
     rotate_left
     ·
      intro w'
      go_simp
      with_reducible rfl
     rotate_left
     ·
      simp only [Act.put, List.setIfInBounds_toArray, List.set_cons_zero, List.set_cons_succ, i64_w, i32_w]
      rfl
     refine pure_ (i := 14) (N := some 112) (v := ?_) (a' := ?_) #[true, true, true, true, true, true, true, true, true, true, true, true, true, true, true, false, false, false, false] rfl rfl (by kernel_rfl) (fun _ _ _ h => h) (Or.inl ⟨by rfl, ?_⟩) ?_ ?_
     rotate_left
     ·
      intro w'
      go_simp
      with_reducible rfl
     rotate_left
     ·
      simp only [Act.put, List.setIfInBounds_toArray, List.set_cons_zero, List.set_cons_succ, i64_w, i32_w]
      rfl
     refine pure_ (i := 15) (N := some 113) (v := ?_) (a' := ?_) #[true, true, true, true, true, true, true, true, true, true, true, true, true, true, true, true, false, false, false] rfl rfl (by kernel_rfl) (fun _ _ _ h => h) (Or.inl ⟨by rfl, ?_⟩) ?_ ?_
     rotate_left
     ·
      intro w'
      go_simp
      with_reducible rfl
     rotate_left
     ·
      simp only [Act.put, List.setIfInBounds_toArray, List.set_cons_zero, List.set_cons_succ, i64_w, i32_w]
      rfl
     refine one_ (i := 16) (N := some 114) #[true, true, true, true, true, true, true, true, true, true, true, true, true, true, true, true, true, false, false] rfl rfl (by kernel_rfl) (by decide) (fun K hK => ?_)
     refine value_ (v := ?_) (w1 := ?_) (by rfl) rfl ?_ ?_
     rotate_left
     rotate_left
     ·
      go_simp
      first | rfl | (constructor <;> rfl)
     refine hK.out _ _ ⟨cell_alloc b16 _, cell_alloc b7 _⟩ (fun hHeld => ?_)
     clear hK K
     refine norm_ (a' := ?_) ?_ ?_
     rotate_left
     ·
      show Act.put _ (some 114) _ = _
      simp only [Act.put, List.setIfInBounds_toArray, List.set_cons_zero, List.set_cons_succ, i64_w, i32_w]
      rfl
     refine last_ (i := 17) (N := some 115) #[true, true, true, true, true, true, true, true, true, true, true, true, true, true, true, true, true, true, false] rfl rfl (by kernel_rfl) (by decide) (fun K hK => ?_)
     refine num_append_step (w0 := w) w.heap.size (by rfl) (.tmp 98) (.tmp 114) 135 119 .u32 4 rfl Tryz.underlying135 info_u32 (by decide) (.slice (some ⟨g, 0, none⟩) m cap) (sched (w16 b 16) (m - 16)) _ rfl rfl (by rw [HL.out]; exact HO2.out) HW2.out.bel HW2.out.bel.size (by rw [HL.out]; omega) ?_
     intro v1 w3 hown hbel hg
     have HO3 := Lib.hid hown
     have HW3 := Lib.hid (HW2.out.next HO2.out hg hbel)
     clear hown hbel hg HO2 HW2
     refine hK.out _ _ ?_
     clear hK K
     refine norm_ (a' := ?_) ?_ ?_
     rotate_left
     ·
      show Act.put _ (some 115) _ = _
      simp only [Act.put, List.setIfInBounds_toArray, List.set_cons_zero, List.set_cons_succ, i64_w, i32_w]
      rfl
     refine pure_ (i := 18) (N := some 6) (v := ?_) (a' := ?_) #[true, true, true, true, true, true, true, true, true, true, true, true, true, true, true, true, true, true, true] rfl rfl (by kernel_rfl) (fun _ _ _ h => h) (Or.inl ⟨by rfl, ?_⟩) ?_ ?_
     rotate_left
     ·
      intro w'
      go_simp
      with_reducible rfl
     rotate_left
     ·
      simp only [Act.put, List.setIfInBounds_toArray, List.set_cons_zero, List.set_cons_succ, i64_w, i32_w]
      rfl
     refine done_ (by kernel_rfl) ?_
     go_wp2_with fail
     go_roundw
     case rel =>
      have e : sched (w16 b 16) (m + 1 - 16) = sched (w16 b 16) (m - 16) ++ [nextW (sched (w16 b 16) (m - 16)) m] := by
       rw [show m + 1 - 16 = (m - 16) + 1 by omega, sched, show 16 + (m - 16) = m by omega]
      (repeat apply Exists.intro)
      refine ⟨⟨m + 1, by omega, by omega, by go_num, Lib.hid ?_, HW3⟩, rfl⟩
      rw [e]
      have hn := HO3.out
      rw [next_walk2 _ _ _ _ _ _ E15.out E2.out E16.out E7.out] at hn
      exact hn
     case measure => simp [intOf]; omega
     -- END B
    ·
     -- BEGIN C
     obtain rfl : m = 64 := by omega
     have hws : sched (w16 b 16) (64 - 16) = wsOf b := rfl
     rw [hws] at HO
     obtain ⟨cur, hcur, hcc⟩ : ∃ cur, wr.heap[g]? = some (.cells cur 119 (0, 0)) ∧ ∀ j, j < 64 → cur[j]? = some (.int .u32 ((wsOf b).getD j 0)) := by
      rcases HO.out.2 with ⟨h0, _⟩ | ⟨g', cap', cur, h0, _, hg', _, _, _, ht⟩
      ·
       cases h0
      ·
       injection h0 with h1 _ _
       injection h1 with h1
       injection h1 with h1
       subst h1
       refine ⟨cur, hg', fun j hj => ?_⟩
       have h2 : (cur.toList.take (64 * 1))[j]? = (nums .u32 (wsOf b))[j]? := by rw [ht]
       rw [List.getElem?_take_of_lt (by omega)] at h2
       rw [← Array.getElem?_toList, h2]
       have hl : j < (wsOf b).length := by rw [wsOf_length]; exact hj
       simp [nums, List.getElem?_eq_getElem hl]
     have HCC := Lib.hid hcc
     have HG := Lib.hid hcur
     clear hlen hU hm1 hm2 hlt hws HO HL hv hcc hcur
     obtain ⟨w1, rfl⟩ : ∃ w1 : World, w1 = wr := ⟨_, rfl⟩
     go_wp2_with fail
     refine (rwords_c _).mono ?_
     rintro e w2 ⟨rfl, hb2⟩
     have HG2 := Lib.hid (blk_below HG.out hb2)
     have HW2 := Lib.hid (show RbW w h w2 from ⟨blk_below HW.out.b0 hb2, blk_below HW.out.b1 hb2, below_step HW.out.bel hb2⟩)
     clear hb2 HG HW
     go_upto_region 17 with (refine Go.wpList_store_row rfl 137 (.tmp 13) (.tmp 116) rfl w2.heap.size (cellsU wordsL) rfl rfl 137 _ (new_ _ _ rfl) (by kernel_rfl) rfl (cellsU_one _) ?_)
     generalize hW3 : World.setRow (World.alloc w2 _) _ _ = w3
     have gl : w.heap.size + 1 < w2.heap.size := blk_lt HW2.out.b1
     have gl2 : g < w2.heap.size := blk_lt HG2.out
     have HK3 := Lib.hid (show w3.heap[w2.heap.size]? = some (.cells (cellsU wordsL) 137 (0, 0)) by rw [← hW3]; exact setRow_heap _ _ _ _ _ _ (new_ _ _ rfl))
     have HG3 := Lib.hid (show w3.heap[g]? = some (.cells cur 119 (0, 0)) by rw [← hW3]; exact (setRow_other _ _ _ _ (by omega)).trans (blk_alloc HG2.out _))
     have HW3 := Lib.hid (show RbW w h w3 by
      rw [← hW3]
      exact ⟨(setRow_other _ _ _ _ (by omega)).trans (blk_alloc HW2.out.b0 _), (setRow_other _ _ _ _ (by omega)).trans (blk_alloc HW2.out.b1 _), below_setRow (below_alloc HW2.out.bel _) (by omega) _⟩)
     clear hW3 HG2 HW2
     obtain ⟨gk, egk⟩ : ∃ gk, gk = w2.heap.size := ⟨_, rfl⟩
     rw [← egk] at HK3 gl gl2 ⊢
     clear egk
     have x0 : w3.cell? ⟨w.heap.size, 0, none⟩ = some (.int .u32 h.a) := blk_cell HW3.out.b0 0
     have x1 : w3.cell? ⟨w.heap.size, 1, none⟩ = some (.int .u32 h.b) := blk_cell HW3.out.b0 1
     have x2 : w3.cell? ⟨w.heap.size, 2, none⟩ = some (.int .u32 h.c) := blk_cell HW3.out.b0 2
     have x3 : w3.cell? ⟨w.heap.size, 3, none⟩ = some (.int .u32 h.d) := blk_cell HW3.out.b0 3
     have x4 : w3.cell? ⟨w.heap.size, 4, none⟩ = some (.int .u32 h.e) := blk_cell HW3.out.b0 4
     have x5 : w3.cell? ⟨w.heap.size, 5, none⟩ = some (.int .u32 h.f) := blk_cell HW3.out.b0 5
     have x6 : w3.cell? ⟨w.heap.size, 6, none⟩ = some (.int .u32 h.g) := blk_cell HW3.out.b0 6
     have x7 : w3.cell? ⟨w.heap.size, 7, none⟩ = some (.int .u32 h.h) := blk_cell HW3.out.b0 7
     go_wp2_with fail
     clear x0 x1 x2 x3 x4 x5 x6 x7
     go_loopw [14, 15, 16, 17, 18, 19, 20, 21, 22] (fun va vb vc vd ve vf vg vh i wr => ∃ (k : Nat) (st : St), k ≤ 64 ∧ i = .int .i64 k ∧ Hid (st = rnds h wordsL (wsOf b) k) ∧ va = .int .u32 st.a ∧ vb = .int .u32 st.b ∧ vc = .int .u32 st.c ∧ vd = .int .u32 st.d ∧ ve = .int .u32 st.e ∧ vf = .int .u32 st.f ∧ vg = .int .u32 st.g ∧ vh = .int .u32 st.h ∧ Hid (wr.heap[gk]? = some (.cells (cellsU wordsL) 137 (0, 0))) ∧ Hid (wr.heap[g]? = some (.cells cur 119 (0, 0))) ∧ Hid (RbW w h wr)) (fun _ _ _ _ _ _ _ _ i _ => 64 - (intOf i).toNat)
     case atStart => exact ⟨0, h, by omega, rfl, Lib.hid rfl, rfl, rfl, rfl, rfl, rfl, rfl, rfl, rfl, HK3, HG3, HW3⟩
     case round =>
      clear HK3 HG3 HW3
      obtain ⟨k, st, hk, rfl, EST, rfl, rfl, rfl, rfl, rfl, rfl, rfl, rfl, HK, HG, HW⟩ := hrel
      by_cases hlt : k < 64
      ·
       have u : st.U := by rw [EST.out]; exact rnds_U HU.out _ _ _
       have uA : U st.a := u _ (by simp [St.list])
       have uE : U st.e := u _ (by simp [St.list])
       have e0 := uE.1
       have e1 := uE.2
       have y1 : wr.drew.cell? ⟨gk, k, none⟩ = some (.int .u32 (wordsL.getD k 0)) := (blk_cell (w := wr.drew) HK.out k).trans (cellsU_get _ _ hlt)
       have y2 : wr.drew.cell? ⟨g, k, none⟩ = some (.int .u32 ((wsOf b).getD k 0)) := (blk_cell (w := wr.drew) HG.out k).trans (HCC.out k hlt)
       have r1 := fun w' => run_at64 gk k hlt (k : Int) rfl w'
       have r2 := fun w' => run_sl g 64 cap k hlt (k : Int) rfl w'
       have hK2 := Lib.hid (show wr.drew.heap[gk]? = _ from HK.out)
       have hG2 := Lib.hid (show wr.drew.heap[g]? = _ from HG.out)
       have hW2 := Lib.hid HW.out.drew
       clear u HK HG HW
       go_wp2_with (first | (go_at_call 106; refine (rturn_c _ _ (by assumption) (by decide) (by decide) _).mono ?_; rintro e w4 ⟨rfl, rfl⟩))
       go_still (by kernel_rfl)
       change Exit.then _ _ _ _ wr.drew
       clear y1 y2 r1 r2
       generalize wr.drew = w5 at hK2 hG2 hW2 ⊢
       go_wp2_with (first | (go_at_call 106; refine (rturn_c _ _ (by assumption) (by decide) (by decide) _).mono ?_; rintro e w4 ⟨rfl, rfl⟩))
       go_roundw
       case rel =>
        refine ⟨k + 1, rnd st (wordsL.getD k 0) ((wsOf b).getD k 0), by omega, by go_num, Lib.hid (by rw [EST.out]; rfl), ?_, rfl, rfl, rfl, ?_, rfl, rfl, rfl, hK2, hG2, hW2⟩
        ·
         simp only [rnd, tI, uI, S0, S1, chI, majI, IntKind.wrap_u32, List.getD_eq_getElem?_getD]
        ·
         simp only [rnd, tI, uI, S0, S1, chI, majI, IntKind.wrap_u32, List.getD_eq_getElem?_getD]
       case measure => simp [intOf]; omega
      ·
       obtain rfl : k = 64 := by omega
       have x0 : wr.cell? ⟨w.heap.size, 0, none⟩ = some (.int .u32 h.a) := blk_cell HW.out.b0 0
       have x1 : wr.cell? ⟨w.heap.size, 1, none⟩ = some (.int .u32 h.b) := blk_cell HW.out.b0 1
       have x2 : wr.cell? ⟨w.heap.size, 2, none⟩ = some (.int .u32 h.c) := blk_cell HW.out.b0 2
       have x3 : wr.cell? ⟨w.heap.size, 3, none⟩ = some (.int .u32 h.d) := blk_cell HW.out.b0 3
       have x4 : wr.cell? ⟨w.heap.size, 4, none⟩ = some (.int .u32 h.e) := blk_cell HW.out.b0 4
       have x5 : wr.cell? ⟨w.heap.size, 5, none⟩ = some (.int .u32 h.f) := blk_cell HW.out.b0 5
       have x6 : wr.cell? ⟨w.heap.size, 6, none⟩ = some (.int .u32 h.g) := blk_cell HW.out.b0 6
       have x7 : wr.cell? ⟨w.heap.size, 7, none⟩ = some (.int .u32 h.h) := blk_cell HW.out.b0 7
       clear HK HG hlt hk
       go_wp2_with (refine Go.wpList_store_row rfl 120 (.tmp 4) (.tmp 232) rfl (w.heap.size + 1) _ rfl rfl 120 _ HW.out.b1 (by kernel_rfl) rfl (one8 _ _ _ _ _ _ _ _) ?_)
       have hr := setRow_heap wr (w.heap.size + 1) _ (cellsU (mixS h b).list) _ _ HW.out.b1
       rw [mix_walk h st b EST.out]
       refine bodyPost_ret (v := .tuple #[u32s (mixS h b).list, .int .i64 0]) (results_row2 Tryz.results93 rfl hr Tryz.underlying120 (by kernel_rfl) rfl) rfl ⟨rfl, below_setRow HW.out.bel (by omega) _⟩
     -- END C
end Go.Proofs.YtopijobdblfhoaaGreat.Sa
end
section
namespace Go.Proofs.YtopijobdblfhoaaGreat.Sa
open Go.Proofs.YtopijobdblfhoaaGreat.Sm
open Go.RowKit Go.Proofs.YtopijobdblfhoaaGreatW.PrintWords Go.Proofs.YtopijobdblfhoaaGreatW.PrintLast Go.Proofs.YtopijobdblfhoaaGreatW.PrintMore
set_option linter.unusedVariables false
set_option linter.unusedSimpArgs false

section
variable {P : Program} {ops : Array Oper} {o : Oper} {a : Act} {Kc : Act → World → Prop} {Q' : Exit → Act → World → Prop}
theorem nums_append_step {w0 W : World} (base : Nat) (hw : Region.wanted o (yielded ops a.tmps) = true) (s x : Operand) (t e : TypeId) (k : IntKind) (bytes : Nat)
  (ho : o.op = .call { callee := .builtin .append, args := #[s, x], argTypes := #[t, t] })
  (ht : P.underlying t = some (.slice e)) (hinfo : (P.info? e).map (fun i => (i.zero, i.size, i.bytes)) = some (some (.int k 0), 1, bytes)) (hb0 : 0 < bytes)
  (v : Value) (xs ys : List Int) (hs : a.eval s = v) (hx : a.eval x = .slice (some ⟨W.heap.size, 0, none⟩) ys.length ys.length)
  (HO : W.ownsRow base e 1 v xs.length (nums k xs)) (HB : Below base w0 W) (hbase : base ≤ W.heap.size) (hl : (xs.length + ys.length) * bytes ≤ 140737488355328)
  (h : ∀ v1 w1, w1.ownsRow base e 1 v1 (xs ++ ys).length (nums k (xs ++ ys)) → Below base w0 w1 → W.grownBy w1 v.ownBlock → Kc (a.put o.dst v1) w1) :
  if Region.wanted o (yielded ops a.tmps) = true then Oper.wp P o a (W.alloc (.cells (nums k ys).toArray e)) Kc Q' else Kc (a.put o.dst undef) (W.alloc (.cells (nums k ys).toArray e)) := by
 obtain ⟨i0, hi, hzz⟩ := Option.map_eq_some_iff.1 hinfo
 simp only [Prod.mk.injEq] at hzz
 obtain ⟨hz0, hz1, hz2⟩ := hzz
 have hlen : xs.length + ys.length ≤ 140737488355328 := Nat.le_trans (Nat.le_mul_of_pos_right _ hb0) hl
 obtain ⟨v1, w1, hr, h2, h3, _, h5⟩ := run_append_own_at (P := P) (W.alloc (.cells (nums k ys).toArray e)) base t o.type e i0 (.int k 0) 1 bytes ht hi hz0 hz1 hz2 rfl (by omega) v xs.length (nums k xs) (HO.alloc _) ⟨W.heap.size, 0, none⟩ ys.length ys.length (nums k ys) (by rw [nums_length]; omega)
  (fun j u hu => by
   rw [add_plain]
   refine (blk_cell (blk_new W _) j).trans ?_
   simpa using hu) (by intro u hu; simp only [nums, List.mem_map] at hu; obtain ⟨q, _, rfl⟩ := hu; rfl) (by simp only [maxLen]; omega) hl (by simp; omega)
 rw [if_pos hw]
 unfold Oper.wp execOp
 simp only [ho, resolve, invoke, builtin, Sem.run_bind, Sem.run_pure, Result.andThen_ok, List.map_toArray, List.map_cons, List.map_nil, hs, hx, hr]
 exact h v1 w1 (by simpa [nums] using h2) ((HB.alloc hbase _).grown h3 (by simp; omega) (own_base HO)) (World.grownBy.trans (World.grownBy_alloc W _ _) h3)
end
def b4w (x : Int) : List Int := [IntKind.u8.wrap (x / 16777216), IntKind.u8.wrap (x / 65536 % 256), IntKind.u8.wrap (x / 256 % 256), IntKind.u8.wrap (x % 256)]
theorem b4w_eq (x : Int) : b4w x = b4 x := by
 unfold b4w b4
 simp only [IntKind.wrap_u8]
 congr 1
 congr 1
 ·
  omega
 congr 1
 ·
  omega
 congr 1
 ·
  omega

set_option maxHeartbeats 8000000 in
set_option maxRecDepth 100000 in
theorem rsum_c (s : ByteArray) (hs : s.size ≤ 140737488351232) (w : World) :
  Calls Tryz.prog 67 #[.string s] w fun e w' => e = .returned (.string (sumB s)) ∧ Below w.heap.size w w' := by
 go_enter Tryz.func67, Tryz.ntmps67
 go_wp2_with fail
 refine (rfirst_c _).mono ?_
 rintro e w2 ⟨rfl, hb1⟩
 have HB2 := Lib.hid hb1
 clear hb1
 go_wp2_with (refine Go.wpList_store_row rfl 120 (.tmp 3) (.tmp 8) rfl w2.heap.size (cellsU firstL) rfl rfl 120 _ (new_ _ _ rfl) (by kernel_rfl) rfl (cellsU_one _) ?_)
 refine (rpad_c s hs _).mono ?_
 rintro e w3 ⟨rfl, hb3⟩
 have G1 : w3.heap[w2.heap.size]? = some (.cells (cellsU firstL) 120 (0, 0)) := blk_below (setRow_heap _ _ _ _ _ _ (new_ _ _ rfl)) hb3
 have HB3 := Lib.hid (below_step (below_setRow (HB2.out.alloc HB2.out.size _) HB2.out.size _) hb3)
 clear hb3
 have hgb : w.heap.size ≤ w2.heap.size := HB2.out.size
 obtain ⟨p, ep⟩ : ∃ p, p = padB s := ⟨_, rfl⟩
 have hps := padB_size s
 have hp64 := padB_64 s
 rw [← ep] at hps hp64 ⊢
 have HP := Lib.hid ep
 clear ep
 obtain ⟨n, hn⟩ : ∃ n, n = p.size / 64 := ⟨_, rfl⟩
 rw [← hn] at hp64
 have HN := Lib.hid hn
 have hnb : n ≤ 2199023255552 := by omega
 have HPS := Lib.hid hps
 have HP64 := Lib.hid hp64
 clear hn hps hp64
 generalize w2.heap.size = g at G1 hgb ⊢
 clear HB2
 go_wp2_with fail
 go_loopw [5] (fun i wr => ∃ j : Nat, j ≤ n ∧ i = .int .i64 (64 * (j : Int)) ∧ wr.heap[g]? = some (.cells (cellsU (stN p j).list) 120 (0, 0)) ∧ Hid (Below w.heap.size w wr)) (fun i _ => (64 * n - (intOf i).toNat))
 case atStart => exact ⟨0, Nat.zero_le _, rfl, G1, HB3⟩
 case round =>
  clear G1 HB3
  obtain ⟨j, hj, rfl, hg, HB⟩ := hrel
  by_cases hlt : j < n
  ·
   have hsz := HP64.out
   have l1 : 64 * j + 64 ≤ p.size := by omega
   have q1 : IntKind.i64.wrap (64 * (j : Int) + 64) = 64 * (j : Int) + 64 := (i64_w _).trans (Go.IntWalk.wrap64_in _ (by omega))
   have sl : ∀ w, (Instr.slice 9 (.string p) (some (.int .i64 (64 * (j : Int)))) (some (.int .i64 (64 * (j : Int) + 64))) none).run Tryz.prog w = .ok (.string (p.extract (64 * j) (64 * j + 64))) w := fun w => by
    have h := run_slice_string (P := Tryz.prog) w 9 p .i64 .i64 (64 * (j : Int)) (64 * (j : Int) + 64) Tryz.underlying9 (by omega) (by omega) (by omega)
    have e1 : (64 * (j : Int)).toNat = 64 * j := by omega
    have e2 : (64 * (j : Int) + 64).toNat = 64 * j + 64 := by omega
    rw [e1, e2] at h
    exact h
   have EX := Lib.hid (show (p.extract (64 * j) (64 * j + 64)).size = 64 by rw [ByteArray.size_extract]; omega)
   have lt : (64 * (j : Int)) < (p.size : Int) := by omega
   have HG := Aside0.mk (show wr.drew.heap[g]? = some (.cells (cellsU (stN p j).list) 120 (0, 0)) from hg)
   replace HB := Aside0.mk HB.out
   clear hsz l1 hg
   go_wp2_with fail
   refine start_ (n := 11) (S := fun w' : World => w'.heap[g]? = some (.cells (cellsU (stN p j).list) 120 (0, 0))) (ds := [10]) #[false, false, false, false, false, false, false, false, false, false, false] (by kernel_rfl) rfl rfl HG.out (fun hHeld => ?_)
   replace HG := Aside0.mk hHeld
   replace HB := Aside0.mk (below_drew1 HB.out)
   generalize wr.drew = w1 at hHeld HG HB ⊢
   refine pure_ (i := 1) (N := some 19) (v := ?_) (a' := ?_) #[false, true, false, false, false, false, false, false, false, false, false] rfl rfl (by kernel_rfl) (fun _ _ _ h => h) (Or.inl ⟨by rfl, ?_⟩) ?_ ?_
   rotate_left
   ·
    intro w'
    go_simp
    with_reducible rfl
   rotate_left
   ·
    simp only [Act.put, List.setIfInBounds_toArray, List.set_cons_zero, List.set_cons_succ, i64_w, i32_w]
    rfl
   refine pure_ (i := 2) (N := some 20) (v := ?_) (a' := ?_) #[false, true, true, false, false, false, false, false, false, false, false] rfl rfl (by kernel_rfl) (fun _ _ _ h => h) (Or.inl ⟨by rfl, ?_⟩) ?_ ?_
   rotate_left
   ·
    intro w'
    go_simp
    with_reducible rfl
   rotate_left
   ·
    simp only [Act.put, List.setIfInBounds_toArray, List.set_cons_zero, List.set_cons_succ, i64_w, i32_w]
    rfl
   refine pure_ (i := 3) (N := some 21) (v := ?_) (a' := ?_) #[false, true, true, true, false, false, false, false, false, false, false] rfl rfl (by kernel_rfl) (fun _ _ _ h => h) (Or.inl ⟨by rfl, ?_⟩) ?_ ?_
   rotate_left
   ·
    intro w'
    go_simp
    with_reducible rfl
   rotate_left
   ·
    simp only [Act.put, List.setIfInBounds_toArray, List.set_cons_zero, List.set_cons_succ, i64_w, i32_w]
    rfl
   refine pure_ (i := 4) (N := some 22) (v := ?_) (a' := ?_) #[false, true, true, true, true, false, false, false, false, false, false] rfl rfl (by kernel_rfl) (fun _ _ _ h => h) (Or.inl ⟨by rfl, ?_⟩) ?_ ?_
   rotate_left
   ·
    intro w'
    go_simp
    with_reducible rfl
   rotate_left
   ·
    simp only [Act.put, List.setIfInBounds_toArray, List.set_cons_zero, List.set_cons_succ, i64_w, i32_w]
    rfl
   refine pure_ (i := 5) (N := some 23) (v := ?_) (a' := ?_) #[false, true, true, true, true, true, false, false, false, false, false] rfl rfl (by kernel_rfl) (fun _ _ _ h => h) (Or.inl ⟨by rfl, ?_⟩) ?_ ?_
   rotate_left
   ·
    intro w'
    go_simp
    with_reducible rfl
   rotate_left
   ·
    simp only [Act.put, List.setIfInBounds_toArray, List.set_cons_zero, List.set_cons_succ, i64_w, i32_w]
    rfl
   refine take_ (i := 0) (N := some 18) (v := .agg (cellsU (stN p j).list)) (a' := ?_) #[true, true, true, true, true, true, false, false, false, false, false] rfl rfl (by kernel_rfl) (fun _ _ _ h => h) (Or.inl ⟨by rfl, ?_⟩) hHeld ?_ ?_
   ·
    rintro w' s0
    exact exec_load_row _ rfl rfl s0 Tryz.underlying120 rfl (by kernel_rfl)
   rotate_left
   ·
    simp only [Act.put, List.setIfInBounds_toArray, List.set_cons_zero, List.set_cons_succ, i64_w, i32_w]
    rfl
   refine one_ (i := 6) (N := some 24) #[true, true, true, true, true, true, true, false, false, false, false] rfl rfl (by kernel_rfl) (by decide) (fun K hK => ?_)
   refine goes_ Tryz.func93 (by kernel_rfl) rfl #[.agg (cellsU (stN p j).list), .string (p.extract (64 * j) (64 * j + 64))] (by rfl) rfl rfl (by (try simp only [List.map_toArray, List.map_cons, List.map_nil]); first | done | rfl) ?_
   refine (rblock_yes (stN p j) (stN_U p j) (p.extract (64 * j) (64 * j + 64)) EX.out _).mono ?_
   rintro e w2 ⟨rfl, hb⟩
   refine ⟨_, rfl, ?_⟩
   have n0_ := Aside0.mk (blk_below HG.out hb)
   have n2_ := Aside0.mk (below_step HB.out hb)
   clear HG HB hb
   have HG := n0_
   have HB := n2_
   clear n0_ n2_
   refine hK.out _ _ HG.out (fun hHeld => ?_)
   clear hK K
   refine norm_ (a' := ?_) ?_ ?_
   rotate_left
   ·
    show Act.put _ (some 24) _ = _
    simp only [Act.put, List.setIfInBounds_toArray, List.set_cons_zero, List.set_cons_succ, i64_w, i32_w]
    rfl
   refine pure_ (i := 7) (N := some 17) (v := ?_) (a' := ?_) #[true, true, true, true, true, true, true, true, false, false, false] rfl rfl (by kernel_rfl) (fun _ _ _ h => h) (Or.inl ⟨by rfl, ?_⟩) ?_ ?_
   rotate_left
   ·
    intro w'
    go_simp
    with_reducible rfl
   rotate_left
   ·
    simp only [Act.put, List.setIfInBounds_toArray, List.set_cons_zero, List.set_cons_succ, i64_w, i32_w]
    rfl
   refine pure_ (i := 8) (N := some 25) (v := ?_) (a' := ?_) #[true, true, true, true, true, true, true, true, true, false, false] rfl rfl (by kernel_rfl) (fun _ _ _ h => h) (Or.inl ⟨by rfl, ?_⟩) ?_ ?_
   rotate_left
   ·
    intro w'
    go_simp
    with_reducible rfl
   rotate_left
   ·
    simp only [Act.put, List.setIfInBounds_toArray, List.set_cons_zero, List.set_cons_succ, i64_w, i32_w]
    rfl
   refine pure_ (i := 9) (N := some 26) (v := ?_) (a' := ?_) #[true, true, true, true, true, true, true, true, true, true, false] rfl rfl (by kernel_rfl) (fun _ _ _ h => h) (Or.inl ⟨by rfl, ?_⟩) ?_ ?_
   rotate_left
   ·
    intro w'
    go_simp
    with_reducible rfl
   rotate_left
   ·
    simp only [Act.put, List.setIfInBounds_toArray, List.set_cons_zero, List.set_cons_succ, i64_w, i32_w]
    rfl
   refine last_ (i := 10) (N := none) #[true, true, true, true, true, true, true, true, true, true, true] rfl rfl (by kernel_rfl) (by decide) (fun K hK => ?_)
   refine skip_ (w1 := w2.setRow g (cellsU (stN p (j + 1)).list)) (by rfl) rfl ?_ ?_
   ·
    exact exec_store_row _ rfl rfl rfl HG.out (by kernel_rfl) rfl (cellsU_one _)
   refine hK.out _ _ ?_
   clear hK K
   refine done_ (by kernel_rfl) ?_
   clear sl q1 lt
   go_wp2_with fail
   go_roundw
   case rel =>
    refine ⟨j + 1, by omega, ?_, setRow_heap _ _ _ _ _ _ HG.out, Lib.hid (below_setRow HB.out (by omega) _)⟩
    first | rfl | (congr 1; omega) | go_num
   case measure => simp [intOf]; omega
  ·
   obtain rfl : j = n := by omega
   have hsz := HP64.out
   have lt : ¬ (64 * (j : Int)) < (p.size : Int) := by omega
   clear hsz hlt hj
   obtain ⟨w4, rfl⟩ : ∃ w4 : World, w4 = wr := ⟨_, rfl⟩
   obtain ⟨S, eS⟩ : ∃ S, S = stN p j := ⟨_, rfl⟩
   rw [← eS] at hg
   have ES := Lib.hid eS
   clear eS
   go_wp2_with fail
   clear lt
   go_loopw [6, 7] (fun v s wr => ∃ k : Nat, k ≤ 8 ∧ s = .int .i64 k ∧ Hid (wr.ownsRow w.heap.size 5 1 v ((S.list.take k).flatMap b4).length (nums .u8 ((S.list.take k).flatMap b4))) ∧ Hid (wr.heap[g]? = some (.cells (cellsU S.list) 120 (0, 0))) ∧ Hid (Below w.heap.size w wr)) (fun _ s _ => 8 - (intOf s).toNat)
   case atStart => exact ⟨0, by omega, rfl, Lib.hid (own_nil _ _ _ _), Lib.hid hg, HB⟩
   case round =>
    clear hg HB
    obtain ⟨k, hk, rfl, HO, HG, HB⟩ := hrel
    by_cases hlt : k < 8
    ·
     obtain ⟨X, eX⟩ : ∃ X, X = S.list.getD k 0 := ⟨_, rfl⟩
     have c0 : wr.cell? ⟨g, k, none⟩ = some (.int .u32 X) := by rw [eX]; exact (blk_cell HG.out k).trans (cellsU_get _ _ hlt)
     have uX : U X := by rw [eX, ES.out]; exact getD_U (stN_U p j) k
     have x0 := uX.1
     have x1 := uX.2
     have t1 : X.tdiv 16777216 = X / 16777216 := Int.tdiv_eq_ediv_of_nonneg x0
     have t2 : X.tdiv 65536 = X / 65536 := Int.tdiv_eq_ediv_of_nonneg x0
     have t3 : X.tdiv 256 = X / 256 := Int.tdiv_eq_ediv_of_nonneg x0
     have t4 : (X / 65536).tmod 256 = X / 65536 % 256 := Int.tmod_eq_emod_of_nonneg (by omega)
     have t5 : (X / 256).tmod 256 = X / 256 % 256 := Int.tmod_eq_emod_of_nonneg (by omega)
     have t6 : X.tmod 256 = X % 256 := Int.tmod_eq_emod_of_nonneg x0
     have w1 : IntKind.u32.wrap (X / 16777216) = X / 16777216 := wrap_id ⟨by omega, by omega⟩
     have w2 : IntKind.u32.wrap (X / 65536) = X / 65536 := wrap_id ⟨by omega, by omega⟩
     have w3 : IntKind.u32.wrap (X / 256) = X / 256 := wrap_id ⟨by omega, by omega⟩
     have w4 : IntKind.u32.wrap (X / 65536 % 256) = X / 65536 % 256 := wrap_id ⟨by omega, by omega⟩
     have w5 : IntKind.u32.wrap (X / 256 % 256) = X / 256 % 256 := wrap_id ⟨by omega, by omega⟩
     have w6 : IntKind.u32.wrap (X % 256) = X % 256 := wrap_id ⟨by omega, by omega⟩
     have r1 := fun w' => run_at8 g k hlt (k : Int) rfl w'
     have HL := Lib.hid (show ((S.list.take k).flatMap b4).length = 4 * k by rw [b4_len, List.length_take]; show 4 * min k 8 = _; omega)
     have EX := Lib.hid eX
     clear eX uX
     go_wp2_with fail
     refine start_ (n := 26) (S := fun w' : World => w'.cell? ⟨g, k, none⟩ = some (.int .u32 X)) (ds := [24]) #[false, false, false, false, false, false, false, false, false, false, false, false, false, false, false, false, false, false, false, false, false, false, false, false, false, false] (by kernel_rfl) rfl rfl c0 (fun hHeld => ?_)
     have HO2 := Lib.hid (show wr.drew.ownsRow _ _ _ _ _ _ from HO.out)
     have HG2 := Lib.hid (show wr.drew.heap[g]? = _ from HG.out)
     have HB2 := Lib.hid (below_drew1 HB.out)
     have b0 : wr.drew.cell? ⟨g, k, none⟩ = some (.int .u32 X) := c0
     clear HO HG HB c0
     generalize wr.drew = w2 at HO2 HG2 HB2 hHeld b0 ⊢
     refine pure_ (i := 0) (N := some 31) (v := ?_) (a' := ?_) #[true, false, false, false, false, false, false, false, false, false, false, false, false, false, false, false, false, false, false, false, false, false, false, false, false, false] rfl rfl (by kernel_rfl) (fun _ _ _ h => h) (Or.inl ⟨by rfl, ?_⟩) ?_ ?_
     rotate_left
     ·
      intro w'
      go_simp
      with_reducible rfl
     rotate_left
     ·
      simp only [Act.put, List.setIfInBounds_toArray, List.set_cons_zero, List.set_cons_succ, i64_w, i32_w]
      rfl
     refine pure_ (i := 1) (N := some 32) (v := ?_) (a' := ?_) #[true, true, false, false, false, false, false, false, false, false, false, false, false, false, false, false, false, false, false, false, false, false, false, false, false, false] rfl rfl (by kernel_rfl) (fun _ _ _ h => h) (Or.inl ⟨by rfl, ?_⟩) ?_ ?_
     rotate_left
     ·
      intro w'
      go_simp
      with_reducible rfl
     rotate_left
     ·
      simp only [Act.put, List.setIfInBounds_toArray, List.set_cons_zero, List.set_cons_succ, i64_w, i32_w]
      rfl
     refine pure_ (i := 2) (N := some 33) (v := ?_) (a' := ?_) #[true, true, true, false, false, false, false, false, false, false, false, false, false, false, false, false, false, false, false, false, false, false, false, false, false, false] rfl rfl (by kernel_rfl) (fun _ _ _ h => h) (Or.inl ⟨by rfl, ?_⟩) ?_ ?_
     rotate_left
     ·
      intro w'
      go_simp
      with_reducible rfl
     rotate_left
     ·
      simp only [Act.put, List.setIfInBounds_toArray, List.set_cons_zero, List.set_cons_succ, i64_w, i32_w]
      rfl
     refine take_ (i := 3) (N := some 34) (v := ?_) (a' := ?_) #[true, true, true, true, false, false, false, false, false, false, false, false, false, false, false, false, false, false, false, false, false, false, false, false, false, false] rfl rfl (by kernel_rfl) (fun _ _ _ h => h) (Or.inl ⟨by rfl, ?_⟩) hHeld ?_ ?_
     rotate_left
     ·
      rintro w' s0
      go_simp
      with_reducible rfl
     rotate_left
     ·
      simp only [Act.put, List.setIfInBounds_toArray, List.set_cons_zero, List.set_cons_succ, i64_w, i32_w]
      rfl
     refine pure_ (i := 4) (N := some 35) (v := ?_) (a' := ?_) #[true, true, true, true, true, false, false, false, false, false, false, false, false, false, false, false, false, false, false, false, false, false, false, false, false, false] rfl rfl (by kernel_rfl) (fun _ _ _ h => h) (Or.inl ⟨by rfl, ?_⟩) ?_ ?_
     rotate_left
     ·
      intro w'
      go_simp
      with_reducible rfl
     rotate_left
     ·
      simp only [Act.put, List.setIfInBounds_toArray, List.set_cons_zero, List.set_cons_succ, i64_w, i32_w]
      rfl
     refine pure_ (i := 5) (N := some 36) (v := ?_) (a' := ?_) #[true, true, true, true, true, true, false, false, false, false, false, false, false, false, false, false, false, false, false, false, false, false, false, false, false, false] rfl rfl (by kernel_rfl) (fun _ _ _ h => h) (Or.inl ⟨by rfl, ?_⟩) ?_ ?_
     rotate_left
     ·
      intro w'
      go_simp
      with_reducible rfl
     rotate_left
     ·
      simp only [Act.put, List.setIfInBounds_toArray, List.set_cons_zero, List.set_cons_succ, i64_w, i32_w]
      rfl
     refine pure_ (i := 6) (N := some 37) (v := ?_) (a' := ?_) #[true, true, true, true, true, true, true, false, false, false, false, false, false, false, false, false, false, false, false, false, false, false, false, false, false, false] rfl rfl (by kernel_rfl) (fun _ _ _ h => h) (Or.inl ⟨by rfl, ?_⟩) ?_ ?_
     rotate_left
     ·
      intro w'
      go_simp
      with_reducible rfl
     rotate_left
     ·
      simp only [Act.put, List.setIfInBounds_toArray, List.set_cons_zero, List.set_cons_succ, i64_w, i32_w]
      rfl
     refine pure_ (i := 7) (N := some 38) (v := ?_) (a' := ?_) #[true, true, true, true, true, true, true, true, false, false, false, false, false, false, false, false, false, false, false, false, false, false, false, false, false, false] rfl rfl (by kernel_rfl) (fun _ _ _ h => h) (Or.inl ⟨by rfl, ?_⟩) ?_ ?_
     rotate_left
     ·
      intro w'
      go_simp
      with_reducible rfl
     rotate_left
     ·
      simp only [Act.put, List.setIfInBounds_toArray, List.set_cons_zero, List.set_cons_succ, i64_w, i32_w]
      rfl
     refine take_ (i := 8) (N := some 39) (v := ?_) (a' := ?_) #[true, true, true, true, true, true, true, true, true, false, false, false, false, false, false, false, false, false, false, false, false, false, false, false, false, false] rfl rfl (by kernel_rfl) (fun _ _ _ h => h) (Or.inl ⟨by rfl, ?_⟩) hHeld ?_ ?_
     rotate_left
     ·
      rintro w' s0
      go_simp
      with_reducible rfl
     rotate_left
     ·
      simp only [Act.put, List.setIfInBounds_toArray, List.set_cons_zero, List.set_cons_succ, i64_w, i32_w]
      rfl
     refine pure_ (i := 9) (N := some 40) (v := ?_) (a' := ?_) #[true, true, true, true, true, true, true, true, true, true, false, false, false, false, false, false, false, false, false, false, false, false, false, false, false, false] rfl rfl (by kernel_rfl) (fun _ _ _ h => h) (Or.inl ⟨by rfl, ?_⟩) ?_ ?_
     rotate_left
     ·
      intro w'
      go_simp
      with_reducible rfl
     rotate_left
     ·
      simp only [Act.put, List.setIfInBounds_toArray, List.set_cons_zero, List.set_cons_succ, i64_w, i32_w]
      rfl
     refine pure_ (i := 10) (N := some 41) (v := ?_) (a' := ?_) #[true, true, true, true, true, true, true, true, true, true, true, false, false, false, false, false, false, false, false, false, false, false, false, false, false, false] rfl rfl (by kernel_rfl) (fun _ _ _ h => h) (Or.inl ⟨by rfl, ?_⟩) ?_ ?_
     rotate_left
     ·
      intro w'
      go_simp
      with_reducible rfl
     rotate_left
     ·
      simp only [Act.put, List.setIfInBounds_toArray, List.set_cons_zero, List.set_cons_succ, i64_w, i32_w]
      rfl
     refine pure_ (i := 11) (N := some 42) (v := ?_) (a' := ?_) #[true, true, true, true, true, true, true, true, true, true, true, true, false, false, false, false, false, false, false, false, false, false, false, false, false, false] rfl rfl (by kernel_rfl) (fun _ _ _ h => h) (Or.inl ⟨by rfl, ?_⟩) ?_ ?_
     rotate_left
     ·
      intro w'
      go_simp
      with_reducible rfl
     rotate_left
     ·
      simp only [Act.put, List.setIfInBounds_toArray, List.set_cons_zero, List.set_cons_succ, i64_w, i32_w]
      rfl
     refine pure_ (i := 12) (N := some 43) (v := ?_) (a' := ?_) #[true, true, true, true, true, true, true, true, true, true, true, true, true, false, false, false, false, false, false, false, false, false, false, false, false, false] rfl rfl (by kernel_rfl) (fun _ _ _ h => h) (Or.inl ⟨by rfl, ?_⟩) ?_ ?_
     rotate_left
     ·
      intro w'
      go_simp
      with_reducible rfl
     rotate_left
     ·
      simp only [Act.put, List.setIfInBounds_toArray, List.set_cons_zero, List.set_cons_succ, i64_w, i32_w]
      rfl
     refine pure_ (i := 13) (N := some 44) (v := ?_) (a' := ?_) #[true, true, true, true, true, true, true, true, true, true, true, true, true, true, false, false, false, false, false, false, false, false, false, false, false, false] rfl rfl (by kernel_rfl) (fun _ _ _ h => h) (Or.inl ⟨by rfl, ?_⟩) ?_ ?_
     rotate_left
     ·
      intro w'
      go_simp
      with_reducible rfl
     rotate_left
     ·
      simp only [Act.put, List.setIfInBounds_toArray, List.set_cons_zero, List.set_cons_succ, i64_w, i32_w]
      rfl
     refine take_ (i := 14) (N := some 45) (v := ?_) (a' := ?_) #[true, true, true, true, true, true, true, true, true, true, true, true, true, true, true, false, false, false, false, false, false, false, false, false, false, false] rfl rfl (by kernel_rfl) (fun _ _ _ h => h) (Or.inl ⟨by rfl, ?_⟩) hHeld ?_ ?_
     rotate_left
     ·
      rintro w' s0
      go_simp
      with_reducible rfl
     rotate_left
     ·
      simp only [Act.put, List.setIfInBounds_toArray, List.set_cons_zero, List.set_cons_succ, i64_w, i32_w]
      rfl
     refine pure_ (i := 15) (N := some 46) (v := ?_) (a' := ?_) #[true, true, true, true, true, true, true, true, true, true, true, true, true, true, true, true, false, false, false, false, false, false, false, false, false, false] rfl rfl (by kernel_rfl) (fun _ _ _ h => h) (Or.inl ⟨by rfl, ?_⟩) ?_ ?_
     rotate_left
     ·
      intro w'
      go_simp
      with_reducible rfl
     rotate_left
     ·
      simp only [Act.put, List.setIfInBounds_toArray, List.set_cons_zero, List.set_cons_succ, i64_w, i32_w]
      rfl
     refine pure_ (i := 16) (N := some 47) (v := ?_) (a' := ?_) #[true, true, true, true, true, true, true, true, true, true, true, true, true, true, true, true, true, false, false, false, false, false, false, false, false, false] rfl rfl (by kernel_rfl) (fun _ _ _ h => h) (Or.inl ⟨by rfl, ?_⟩) ?_ ?_
     rotate_left
     ·
      intro w'
      go_simp
      with_reducible rfl
     rotate_left
     ·
      simp only [Act.put, List.setIfInBounds_toArray, List.set_cons_zero, List.set_cons_succ, i64_w, i32_w]
      rfl
     refine pure_ (i := 17) (N := some 48) (v := ?_) (a' := ?_) #[true, true, true, true, true, true, true, true, true, true, true, true, true, true, true, true, true, true, false, false, false, false, false, false, false, false] rfl rfl (by kernel_rfl) (fun _ _ _ h => h) (Or.inl ⟨by rfl, ?_⟩) ?_ ?_
     rotate_left
     ·
      intro w'
      go_simp
      with_reducible rfl
     rotate_left
     ·
      simp only [Act.put, List.setIfInBounds_toArray, List.set_cons_zero, List.set_cons_succ, i64_w, i32_w]
      rfl
     refine pure_ (i := 18) (N := some 49) (v := ?_) (a' := ?_) #[true, true, true, true, true, true, true, true, true, true, true, true, true, true, true, true, true, true, true, false, false, false, false, false, false, false] rfl rfl (by kernel_rfl) (fun _ _ _ h => h) (Or.inl ⟨by rfl, ?_⟩) ?_ ?_
     rotate_left
     ·
      intro w'
      go_simp
      with_reducible rfl
     rotate_left
     ·
      simp only [Act.put, List.setIfInBounds_toArray, List.set_cons_zero, List.set_cons_succ, i64_w, i32_w]
      rfl
     refine pure_ (i := 19) (N := some 50) (v := ?_) (a' := ?_) #[true, true, true, true, true, true, true, true, true, true, true, true, true, true, true, true, true, true, true, true, false, false, false, false, false, false] rfl rfl (by kernel_rfl) (fun _ _ _ h => h) (Or.inl ⟨by rfl, ?_⟩) ?_ ?_
     rotate_left
     ·
      intro w'
      go_simp
      with_reducible rfl
     rotate_left
     ·
      simp only [Act.put, List.setIfInBounds_toArray, List.set_cons_zero, List.set_cons_succ, i64_w, i32_w]
      rfl
     refine take_ (i := 20) (N := some 51) (v := ?_) (a' := ?_) #[true, true, true, true, true, true, true, true, true, true, true, true, true, true, true, true, true, true, true, true, true, false, false, false, false, false] rfl rfl (by kernel_rfl) (fun _ _ _ h => h) (Or.inl ⟨by rfl, ?_⟩) hHeld ?_ ?_
     rotate_left
     ·
      rintro w' s0
      go_simp
      with_reducible rfl
     rotate_left
     ·
      simp only [Act.put, List.setIfInBounds_toArray, List.set_cons_zero, List.set_cons_succ, i64_w, i32_w]
      rfl
     refine pure_ (i := 21) (N := some 52) (v := ?_) (a' := ?_) #[true, true, true, true, true, true, true, true, true, true, true, true, true, true, true, true, true, true, true, true, true, true, false, false, false, false] rfl rfl (by kernel_rfl) (fun _ _ _ h => h) (Or.inl ⟨by rfl, ?_⟩) ?_ ?_
     rotate_left
     ·
      intro w'
      go_simp
      with_reducible rfl
     rotate_left
     ·
      simp only [Act.put, List.setIfInBounds_toArray, List.set_cons_zero, List.set_cons_succ, i64_w, i32_w]
      rfl
     refine pure_ (i := 22) (N := some 53) (v := ?_) (a' := ?_) #[true, true, true, true, true, true, true, true, true, true, true, true, true, true, true, true, true, true, true, true, true, true, true, false, false, false] rfl rfl (by kernel_rfl) (fun _ _ _ h => h) (Or.inl ⟨by rfl, ?_⟩) ?_ ?_
     rotate_left
     ·
      intro w'
      go_simp
      with_reducible rfl
     rotate_left
     ·
      simp only [Act.put, List.setIfInBounds_toArray, List.set_cons_zero, List.set_cons_succ, i64_w, i32_w]
      rfl
     refine one_ (i := 23) (N := some 54) #[true, true, true, true, true, true, true, true, true, true, true, true, true, true, true, true, true, true, true, true, true, true, true, true, false, false] rfl rfl (by kernel_rfl) (by decide) (fun K hK => ?_)
     refine value_ (v := ?_) (w1 := ?_) (by rfl) rfl ?_ ?_
     rotate_left
     rotate_left
     ·
      go_simp
      first | rfl | (constructor <;> rfl)
     refine hK.out _ _ (cell_alloc b0 _) (fun hHeld => ?_)
     clear hK K
     refine norm_ (a' := ?_) ?_ ?_
     rotate_left
     ·
      show Act.put _ (some 54) _ = _
      simp only [Act.put, List.setIfInBounds_toArray, List.set_cons_zero, List.set_cons_succ, i64_w, i32_w]
      rfl
     refine last_ (i := 24) (N := some 55) #[true, true, true, true, true, true, true, true, true, true, true, true, true, true, true, true, true, true, true, true, true, true, true, true, true, false] rfl rfl (by kernel_rfl) (by decide) (fun K hK => ?_)
     refine nums_append_step (w0 := w) w.heap.size (by rfl) (.tmp 31) (.tmp 54) 124 5 .u8 1 rfl Tryz.underlying124 info_u8 (by decide) _ ((S.list.take k).flatMap b4) (b4w X) rfl rfl HO2.out HB2.out HB2.out.size (by rw [HL.out]; show (4 * k + 4) * 1 ≤ _; omega) ?_
     intro v1 w3 hown hbel hg
     have HO3 := Lib.hid hown
     have HB3 := Lib.hid hbel
     have HG3 := Lib.hid (blk_grown HG2.out hg (own_ne HO2.out HG2.out (by decide)))
     clear hown hbel hg HO2 HB2 HG2
     refine hK.out _ _ ?_
     clear hK K
     refine norm_ (a' := ?_) ?_ ?_
     rotate_left
     ·
      show Act.put _ (some 55) _ = _
      simp only [Act.put, List.setIfInBounds_toArray, List.set_cons_zero, List.set_cons_succ, i64_w, i32_w]
      rfl
     refine pure_ (i := 25) (N := some 6) (v := ?_) (a' := ?_) #[true, true, true, true, true, true, true, true, true, true, true, true, true, true, true, true, true, true, true, true, true, true, true, true, true, true] rfl rfl (by kernel_rfl) (fun _ _ _ h => h) (Or.inl ⟨by rfl, ?_⟩) ?_ ?_
     rotate_left
     ·
      intro w'
      go_simp
      with_reducible rfl
     rotate_left
     ·
      simp only [Act.put, List.setIfInBounds_toArray, List.set_cons_zero, List.set_cons_succ, i64_w, i32_w]
      rfl
     refine done_ (by kernel_rfl) ?_
     go_wp2_with fail
     go_roundw
     case rel =>
      have e : (S.list.take (k + 1)).flatMap b4 = (S.list.take k).flatMap b4 ++ b4w X := by
       have hk' : k < S.list.length := hlt
       rw [List.take_succ_eq_append_getElem hk', List.flatMap_append, b4w_eq, EX.out, List.getD_eq_getElem?_getD, List.getElem?_eq_getElem hk']
       simp
      refine ⟨k + 1, by omega, by go_num, Lib.hid ?_, HG3, HB3⟩
      rw [e]
      exact HO3.out
     case measure => simp [intOf]; omega
    ·
     obtain rfl : k = 8 := by omega
     have e8 : (S.list.take 8).flatMap b4 = (S.list.flatMap bytes4).map fun b => ((b.toNat : Nat) : Int) := by
      have := outL_bytes S (by rw [ES.out]; exact stN_U _ _)
      unfold outL at this
      simpa using this
     rw [e8] at HO
     have cv := own_string (P := Tryz.prog) (src := 124) (dst := 9) Tryz.underlying124 Tryz.underlying5 Tryz.underlying9 HO.out
     rw [str_bytes] at cv
     clear HO e8 hlt hk
     go_wp2_with fail
     go_ret
     refine ⟨?_, HB.out⟩
     show Ending.returned (.string ⟨(S.list.flatMap bytes4).toArray⟩) = _
     unfold sumB
     rw [sumS_stN, ← HP.out, ← HN.out, ← ES.out]
end Go.Proofs.YtopijobdblfhoaaGreat.Sa
end
