import Derived.Test.YtefdokolbdnjnaaMx
import Derived.ArgAppend
import Derived.Lib.ConvBytes
import Derived.Lib.AppendStr
import Derived.Laws.IdiomCopy
/-
  Bytes of the call's own, begun by []byte(s) or as a row of its own, appended to: what they are good for. By an AI agent.
-/
namespace Go.Proofs.Ytefdokolbdnjnaa.Sa
open Go.RowKit Go.Proofs.YtefdokolbdnjnaaW.PrintWords Go.Proofs.YtefdokolbdnjnaaW.PrintLast Go.Proofs.YtefdokolbdnjnaaW.PrintMore
set_option linter.unusedVariables false
set_option linter.unusedSimpArgs false

/-- The slice value v, not nil, has the bytes l, in cells of the call's own (from block 'base' on) that may be written up to its capacity. -/
def BB (base : Nat) (w : World) (v : Value) (l : List Int) : Prop :=
  ∃ g cap, v = .slice (some ⟨g, 0, none⟩) l.length cap ∧ base ≤ g ∧ g < w.heap.size ∧ l.length ≤ cap ∧ cap ≤ maxLen ∧ (∀ j, j < cap → (w.cell? ⟨g, j, none⟩).isSome = true) ∧ (∀ j, j < cap → w.frozen? ⟨g, j, none⟩ = false) ∧ (∀ j x, l[j]? = some x → w.cell? ⟨g, j, none⟩ = some (.int .u8 x))
theorem BB.base {base : Nat} {w : World} {v : Value} {l : List Int} (h : BB base w v l) : ∀ k, v.ownBlock = some k → base ≤ k := by
  obtain ⟨g, cap, rfl, hb, _⟩ := h
  intro k hk
  simp only [Value.ownBlock, Option.some.injEq] at hk
  omega
theorem BB.below {base : Nat} {w w1 : World} {v : Value} {l : List Int} (h : BB base w v l) (hb : Below w.heap.size w w1) : BB base w1 v l := by
  obtain ⟨g, cap, rfl, h1, h2, h3, h4, h5, h6, h7⟩ := h
  refine ⟨g, cap, rfl, h1, by have := hb.size; omega, h3, h4, fun j hj => ?_, fun j hj => ?_, fun j x hx => ?_⟩
  · rw [hb.cell (p := ⟨g, j, none⟩) h2]; exact h5 j hj
  · rw [hb.frozen (p := ⟨g, j, none⟩) h2]; exact h6 j hj
  · rw [hb.cell (p := ⟨g, j, none⟩) h2]; exact h7 j x hx
theorem BB.other {base : Nat} {w w1 : World} {v : Value} {l : List Int} {row : Option Nat} (h : BB base w v l) (hg : w.grownBy w1 row) (hne : v.ownBlock ≠ row) : BB base w1 v l := by
  obtain ⟨g, cap, rfl, h1, h2, h3, h4, h5, h6, h7⟩ := h
  have hh := hg.block g h2 (by simpa [Value.ownBlock] using hne)
  refine ⟨g, cap, rfl, h1, by have := hg.size; omega, h3, h4, fun j hj => ?_, fun j hj => ?_, fun j x hx => ?_⟩
  · have := h5 j hj; simpa [World.cell?, hh] using this
  · have := h6 j hj; simpa [World.frozen?, hh] using this
  · have := h7 j x hx; simpa [World.cell?, hh] using this
theorem BB.alloc {base : Nat} {w : World} {v : Value} {l : List Int} (h : BB base w v l) (o : Obj) : BB base (w.alloc o) v l := h.below ((Below.refl _ _).alloc (Nat.le_refl _) _)
theorem BB.drew {base : Nat} {w : World} {v : Value} {l : List Int} (h : BB base w v l) : BB base w.drew v l := h
theorem BB.reads {base : Nat} {w : World} {v : Value} {l : List Int} (h : BB base w v l) : ∃ A c, v = .slice A l.length c ∧ ReadsInt w .u8 A l.length l := by
  obtain ⟨g, cap, rfl, h1, h2, h3, h4, h5, h6, h7⟩ := h
  refine ⟨_, _, rfl, rfl, by unfold maxLen at h4; omega, fun _ => ⟨_, rfl, fun j hj => ?_⟩⟩
  rw [add_plain]
  exact (h7 j _ (List.getElem?_eq_getElem hj)).trans (by simp [List.getD_eq_getElem?_getD, List.getElem?_eq_getElem hj])
theorem BB.of_own {base : Nat} {w : World} {v : Value} {l : List Int} {e : TypeId} (h : w.ownsRow base e 1 v l.length (nums .u8 l)) (hv : v ≠ .slice none 0 0) : BB base w v l := by
  rcases h.2 with ⟨h0, _⟩ | ⟨g, cap, cur, rfl, hb, hg, hn, hc, hs, ht⟩
  · exact absurd h0 hv
  · have hs' : cur.size = cap := by simpa using hs
    refine ⟨g, cap, rfl, hb, blk_lt hg, hn, hc, fun j hj => ?_, fun j _ => blk_frozen hg j, fun j x hx => ?_⟩
    · rw [blk_cell hg j, Array.getElem?_eq_getElem (by omega)]; rfl
    · have hj : j < l.length := (List.getElem?_eq_some_iff.1 hx).1
      rw [blk_cell hg j]
      have : (cur.toList.take (l.length * 1))[j]? = (nums .u8 l)[j]? := by rw [ht]
      rw [List.getElem?_take_of_lt (by omega)] at this
      rw [← Array.getElem?_toList, this]
      simp [nums, hx]
/-- []byte(s) -/
theorem BB.of_bytes {base : Nat} {w : World} (s : ByteArray) (hb : base ≤ w.heap.size) (hs : s.size ≤ 140737488355328) : BB base (Lib.bytesWorld w 5 s) (.slice (some ⟨w.heap.size, 0, none⟩) s.size (grownCap w s.size 0 5)) (bytesOf s) := by
  have hg := Lib.bytesWorld_at_new w 5 s
  have hge := grownCap_ge w s.size 0 5
  have hcm : grownCap w s.size 0 5 ≤ maxLen := grownCap_le_maxLen w s.size 0 5 (by unfold maxLen; omega)
  have hsz : (Lib.bytesCells w 5 s).size = grownCap w s.size 0 5 := by
    have : s.data.size = s.size := rfl
    simp [Lib.bytesCells]
    omega
  refine ⟨w.heap.size, grownCap w s.size 0 5, by rw [bytesOf_length], hb, blk_lt hg, by rw [bytesOf_length]; exact hge, hcm, fun j hj => ?_, fun j hj => ?_, fun j x hx => ?_⟩
  · have : (Lib.bytesWorld w 5 s).cell? ⟨w.heap.size, j, none⟩ = (Lib.bytesCells w 5 s)[j]? := cell_of_row _ _ _ _ _ _ hg
    rw [this, Array.getElem?_eq_getElem (by omega)]; rfl
  · have : ¬ ((Lib.bytesCells w 5 s).size ≤ j) := by omega
    simp [World.frozen?, hg, this]
  · have hj : j < s.size := by have := (List.getElem?_eq_some_iff.1 hx).1; rw [bytesOf_length] at this; exact this
    rw [Lib.bytesWorld_cell w 5 s j hj]
    have hj' : j < s.data.toList.length := by rw [data_length]; exact hj
    simp [bytesOf, List.getElem?_eq_getElem hj'] at hx
    simp [List.getD_eq_getElem?_getD, List.getElem?_eq_getElem hj', ← hx]

theorem setCells_heap (b : Nat) : ∀ (vs : List Value) (o : Nat) (w : World) (k : Nat), k ≠ b → (w.setCells b o vs).heap[k]? = w.heap[k]?
  | [], _, _, _, _ => rfl
  | v :: r, o, w, k, h => by
    rw [World.setCells, setCells_heap b r (o + 1) _ k h]
    exact Below.heap_setCell _ _ _ _ h
theorem setCells_size (b : Nat) : ∀ (vs : List Value) (o : Nat) (w : World), (w.setCells b o vs).heap.size = w.heap.size
  | [], _, _ => rfl
  | v :: r, o, w => by
    rw [World.setCells, setCells_size b r (o + 1)]
    simp [World.setCell]
theorem setCells_os (b : Nat) : ∀ (vs : List Value) (o : Nat) (w : World), (w.setCells b o vs).os = w.os ∧ (w.setCells b o vs).tape = w.tape ∧ (w.setCells b o vs).output = w.output
  | [], _, _ => ⟨rfl, rfl, rfl⟩
  | v :: r, o, w => by
    rw [World.setCells]
    exact setCells_os b r (o + 1) _
theorem grownBy_setCells (w : World) (b o : Nat) (vs : List Value) : w.grownBy (w.setCells b o vs) (some b) :=
  ⟨(setCells_os b vs o w).1, (setCells_os b vs o w).2.1, (setCells_os b vs o w).2.2, by rw [setCells_size]; exact Nat.le_refl _, fun k _ hk => setCells_heap b vs o w k (fun e => hk (by rw [e]))⟩
/-- what was written behind -/
theorem BB.wrote {base g cap : Nat} {w : World} {l ys : List Int} (h : BB base w (.slice (some ⟨g, 0, none⟩) l.length cap) l) (hr : l.length + ys.length ≤ cap) :
    BB base (w.setCells g (0 + l.length * 1) (nums .u8 ys)) (.slice (some ⟨g, 0, none⟩) (l.length + ys.length) cap) (l ++ ys) := by
  obtain ⟨g', cap', he, h1, h2, h3, h4, h5, h6, h7⟩ := h
  injection he with e1 _ e3
  injection e1 with e1
  injection e1 with e1
  subst e1 e3
  simp only [Nat.zero_add, Nat.mul_one]
  have hin : ∀ j, j < (nums .u8 ys).length → (w.cell? ⟨g, l.length + j, none⟩).isSome = true := fun j hj => h5 _ (by rw [nums_length] at hj; omega)
  refine ⟨g, cap, by rw [List.length_append], h1, by rw [setCells_size]; exact h2, by rw [List.length_append]; exact hr, h4, fun j hj => ?_, fun j hj => ?_, fun j x hx => ?_⟩
  · by_cases h : l.length ≤ j ∧ j < l.length + ys.length
    · obtain ⟨i, rfl⟩ : ∃ i, j = l.length + i := ⟨j - l.length, by omega⟩
      rw [World.cell?_setCells_in g (nums .u8 ys) l.length w hin i (by rw [nums_length]; omega)]
      rfl
    · rw [World.cell?_setCells_out g (nums .u8 ys) l.length w ⟨g, j, none⟩ (fun _ _ => by rw [nums_length]; show j < l.length ∨ l.length + ys.length ≤ j; omega)]
      exact h5 j hj
  · rw [World.frozen?_setCells]; exact h6 j hj
  · by_cases h : j < l.length
    · rw [List.getElem?_append_left h] at hx
      rw [World.cell?_setCells_out g (nums .u8 ys) l.length w ⟨g, j, none⟩ (fun _ _ => .inl h)]
      exact h7 j x hx
    · obtain ⟨i, rfl⟩ : ∃ i, j = l.length + i := ⟨j - l.length, by omega⟩
      rw [List.getElem?_append_right (by omega), Nat.add_sub_cancel_left] at hx
      have hi : i < ys.length := (List.getElem?_eq_some_iff.1 hx).1
      rw [World.cell?_setCells_in g (nums .u8 ys) l.length w hin i (by rw [nums_length]; exact hi)]
      simp [nums]
      have := (List.getElem?_eq_some_iff.1 hx).2
      exact this
theorem info_u8 : (Try.prog.info? 5).map (fun i => (i.zero, i.size, i.bytes)) = some (some (.int .u8 0), 1, 1) := by kernel_rfl
/-- A row of bytes appended. -/
theorem BB.append_row {base : Nat} {w : World} {v : Value} {l ys : List Int} {A : Option Addr} {m c : Nat} (ty : TypeId) (h : BB base w v l) (hr : ReadsInt w .u8 A m ys) (hl : l.length + m ≤ 140737488355328) (hbase : base ≤ w.heap.size) :
    ∃ v1 w1, (Builtin.append_ #[93, 93] ty #[v, .slice A m c]).run Try.prog w = .ok v1 w1 ∧ BB base w1 v1 (l ++ ys) ∧ w.grownBy w1 v.ownBlock := by
  obtain ⟨i0, hi, hz0, hz1, hz2⟩ := info_parts info_u8
  have hm : ys.length = m := hr.1
  have h' := h
  obtain ⟨g, cap, rfl, h1, h2, h3, h4, h5, h6, h7⟩ := h
  rcases A with _ | ad
  · have h0 : m = 0 := by
      rcases Nat.eq_zero_or_pos m with h0 | h0
      · exact h0
      · obtain ⟨ad, h, _⟩ := hr.2.2 h0
        cases h
    subst h0
    obtain rfl : ys = [] := List.eq_nil_of_length_eq_zero hm
    refine ⟨_, w, ?_, by simpa using h', World.grownBy.refl w _⟩
    simp [Builtin.append_, run_underlying Try.underlying93, sizeOf, typeInfo, hi, Builtin.lenOf, Builtin.firstCells, h3, storeCells]
  · have hcells : ∀ j u, (nums .u8 ys)[j]? = some u → w.cell? (ad.add j) = some u := by
      intro j u hu
      have hj : j < ys.length := by
        rcases Nat.lt_or_ge j ys.length with h | h
        · exact h
        · simp [nums, List.getElem?_eq_none h] at hu
      obtain ⟨ad', hq, hc⟩ := hr.2.2 (by omega)
      obtain rfl := Option.some.inj hq
      have := hc j (by omega)
      simp [nums, List.getElem?_eq_getElem hj] at hu
      subst hu
      rw [this]
      simp [List.getD_eq_getElem?_getD, List.getElem?_eq_getElem hj]
    have hone : ∀ u ∈ nums .u8 ys, u.oneCell' = true := by intro u hu; simp only [nums, List.mem_map] at hu; obtain ⟨q, _, rfl⟩ := hu; rfl
    by_cases hroom : l.length + m ≤ cap
    · have hrun := run_append_room_cells (P := Try.prog) w 93 ty 5 i0 Try.underlying93 hi g 0 l.length cap ad m c (nums .u8 ys) (by rw [nums_length, hz1, hm, Nat.mul_one]) hcells hone hroom
        (fun j hj => by rw [nums_length] at hj; rw [hz1]; simp only [Nat.zero_add, Nat.mul_one]; exact h5 _ (by omega)) (fun j hj => by rw [nums_length] at hj; rw [hz1]; simp only [Nat.zero_add, Nat.mul_one]; exact h6 _ (by omega))
      rw [hz1] at hrun
      refine ⟨_, _, hrun, ?_, grownBy_setCells _ _ _ _⟩
      have := h'.wrote (ys := ys) (by omega)
      rw [hm] at this
      exact this
    · obtain ⟨v1, w1, hrun, hown, hg⟩ := run_append_arg_grows (P := Try.prog) w 93 ty 5 i0 (.int .u8 0) 1 1 Try.underlying93 hi hz0 hz1 hz2 rfl (by decide) ⟨g, 0, none⟩ l.length cap (nums .u8 l) (by rw [nums_length]; omega)
        (fun j u hu => by
          simp only [nums, List.getElem?_map, Option.map_eq_some_iff] at hu
          obtain ⟨x, hx, rfl⟩ := hu
          rw [add_plain]
          exact h7 j x hx) ad m c (nums .u8 ys) (by rw [nums_length]; omega) hcells (by omega) (by unfold maxLen; omega) (by omega)
      have hown' : w1.ownsRow w.heap.size 5 1 v1 (l ++ ys).length (nums .u8 (l ++ ys)) := by
        rw [List.length_append, hm, nums_append]; exact hown
      refine ⟨v1, w1, hrun, ?_, ⟨hg.os, hg.tape, hg.output, hg.size, fun k hk _ => hg.block k hk (by simp)⟩⟩
      refine BB.of_own (e := 5) (own_less hown' hbase) ?_
      intro hv
      rw [hv] at hown'
      have h1' := hown'.1
      have : (l ++ ys).length = 0 := by
        rcases hown'.2 with ⟨_, h0⟩ | ⟨_, _, _, h0, _⟩
        · exact h0
        · cases h0
      rw [List.length_append] at this
      omega
/-- A string appended. -/
theorem BB.append_str {base : Nat} {w : World} {v : Value} {l : List Int} (ty : TypeId) (s : ByteArray) (h : BB base w v l) (hl : l.length + s.size ≤ 140737488355328) (hbase : base ≤ w.heap.size) :
    ∃ v1 w1, (Builtin.append_ #[93, 9] ty #[v, .string s]).run Try.prog w = .ok v1 w1 ∧ BB base w1 v1 (l ++ bytesOf s) ∧ w.grownBy w1 v.ownBlock := by
  obtain ⟨i0, hi, hz0, hz1, hz2⟩ := info_parts info_u8
  have h' := h
  obtain ⟨g, cap, rfl, h1, h2, h3, h4, h5, h6, h7⟩ := h
  have hsc : Lib.strCells s = nums .u8 (bytesOf s) := by simp [Lib.strCells, nums, bytesOf]
  by_cases hroom : l.length + s.size ≤ cap
  · have hf := Lib.run_firstCells_string (P := Try.prog) w 1 s
    have hst := run_storeCells_cells (P := Try.prog) g l.length (Lib.strCells s) 0 w (fun j hj => by rw [Lib.strCells_length] at hj; exact h5 _ (by omega)) (fun j hj => by rw [Lib.strCells_length] at hj; exact h6 _ (by omega)) (Lib.strCells_oneCell s)
    simp only [Nat.add_zero] at hst
    refine ⟨.slice (some ⟨g, 0, none⟩) (l.length + s.size) cap, w.setCells g (0 + l.length * 1) (nums .u8 (bytesOf s)), ?_, ?_, grownBy_setCells _ _ _ _⟩
    · rw [← hsc]
      simp [Builtin.append_, run_underlying Try.underlying93, run_underlying Try.underlying9, sizeOf, typeInfo, hi, hz1, Builtin.lenOf, hroom, hf, Addr.add_lit, hst]
    · have := h'.wrote (ys := bytesOf s) (by rw [bytesOf_length]; exact hroom)
      rw [bytesOf_length] at this
      exact this
  · have hlt : cap < l.length + s.size := by omega
    have hr := Lib.run_append_grow_string (P := Try.prog) w 93 9 ty 5 i0 (.int .u8 0) Try.underlying93 Try.underlying9 hi hz0 ⟨g, 0, none⟩ l.length cap (nums .u8 l) (by rw [nums_length, hz1]; omega)
      (fun j u hu => by
        simp only [nums, List.getElem?_map, Option.map_eq_some_iff] at hu
        obtain ⟨x, hx, rfl⟩ := hu
        rw [add_plain]
        exact h7 j x hx) s hlt (by omega) (by rw [hz2]; exact growslice_fits hlt (by omega))
    have hge := grownCap_ge w (l.length + s.size) cap 5
    have hcm : grownCap w (l.length + s.size) cap 5 ≤ maxLen := grownCap_le_maxLen w _ _ _ (by unfold maxLen; omega)
    refine ⟨_, _, hr, ?_, ⟨rfl, rfl, rfl, by simp, fun k hk _ => Go.heap_alloc_old w.drew _ hk⟩⟩
    refine BB.of_own (e := 5) ?_ (by simp)
    refine ⟨by rw [nums_length]; omega, .inr ⟨w.heap.size, _, _, ?_, hbase, heap_alloc_new w.drew _, ?_, hcm, ?_, ?_⟩⟩
    · rw [List.length_append, bytesOf_length]
    · rw [List.length_append, bytesOf_length]; exact hge
    · have hz1 : (Value.int IntKind.u8 0).cells.size = 1 := rfl
      simp only [Array.size_append, List.size_toArray, size_zeroCells, hz1, nums_length, Lib.strCells_length]
      omega
    · rw [hsc]
      simp only [Array.toList_append, List.append_assoc]
      rw [← List.append_assoc, ← nums_append]
      have : (l ++ bytesOf s).length * 1 = (nums .u8 (l ++ bytesOf s)).length := by rw [nums_length]; omega
      rw [this]
      exact List.take_left
section
variable {ops : Array Oper} {rest : List Oper} {o : Oper} {a : Act} {Q : Exit → Act → World → Prop}
theorem wpList_bb_row {base : Nat} {w : World} {v : Value} {l ys : List Int} {A : Option Addr} {m c : Nat} (hgd : o.guard = none) (s x : Operand) (ho : o.op = .call { callee := .builtin .append, args := #[s, x], argTypes := #[93, 93] }) (hs : a.eval s = v) (hx : a.eval x = .slice A m c)
    (h : BB base w v l) (hr : ReadsInt w .u8 A m ys) (hl : l.length + m ≤ 140737488355328) (hbase : base ≤ w.heap.size)
    (hK : ∀ v1 w1, BB base w1 v1 (l ++ ys) → w.grownBy w1 v.ownBlock → wpList Try.prog ops Q rest (a.put o.dst v1) w1) : wpList Try.prog ops Q (o :: rest) a w := by
  obtain ⟨v1, w1, hrun, hb, hg⟩ := h.append_row o.type hr hl hbase (c := c)
  refine wpList_plain hgd fun K hK' => ?_
  unfold Oper.wp execOp
  simp only [ho, resolve, invoke, builtin, Sem.run_bind, Sem.run_pure, Result.andThen_ok, List.map_toArray, List.map_cons, List.map_nil, hs, hx, hrun]
  exact hK' _ _ (hK v1 w1 hb hg)
theorem wpList_bb_one {base : Nat} {w : World} {v : Value} {l : List Int} {y : Int} (hgd : o.guard = none) (s x : Operand) (ho : o.op = .call { callee := .builtin .append, args := #[s, x], argTypes := #[93, 93] }) (hs : a.eval s = v) (hx : a.eval x = .slice (some ⟨w.heap.size, 0, none⟩) 1 1)
    (h : BB base w v l) (hl : l.length + 1 ≤ 140737488355328) (hbase : base ≤ w.heap.size)
    (hK : ∀ v1 w1, BB base w1 v1 (l ++ [y]) → w.grownBy w1 v.ownBlock → wpList Try.prog ops Q rest (a.put o.dst v1) w1) : wpList Try.prog ops Q (o :: rest) a (w.alloc (.cells #[.int .u8 y] 5)) := by
  refine wpList_bb_row hgd s x ho hs hx (h.alloc _) (ys := [y]) ⟨rfl, by decide, fun _ => ⟨_, rfl, fun j hj => ?_⟩⟩ hl (by simp; omega) (fun v1 w1 hb hg => hK v1 w1 hb (World.grownBy.trans (World.grownBy_alloc w _ _) hg))
  obtain rfl : j = 0 := by omega
  rw [add_plain]
  exact blk_cell (blk_new w _) 0
theorem wpList_bb_str {base : Nat} {w : World} {v : Value} {l : List Int} (str : ByteArray) (hgd : o.guard = none) (s x : Operand) (ho : o.op = .call { callee := .builtin .append, args := #[s, x], argTypes := #[93, 9] }) (hs : a.eval s = v) (hx : a.eval x = .string str)
    (h : BB base w v l) (hl : l.length + str.size ≤ 140737488355328) (hbase : base ≤ w.heap.size)
    (hK : ∀ v1 w1, BB base w1 v1 (l ++ bytesOf str) → w.grownBy w1 v.ownBlock → wpList Try.prog ops Q rest (a.put o.dst v1) w1) : wpList Try.prog ops Q (o :: rest) a w := by
  obtain ⟨v1, w1, hrun, hb, hg⟩ := h.append_str o.type str hl hbase
  refine wpList_plain hgd fun K hK' => ?_
  unfold Oper.wp execOp
  simp only [ho, resolve, invoke, builtin, Sem.run_bind, Sem.run_pure, Result.andThen_ok, List.map_toArray, List.map_cons, List.map_nil, hs, hx, hrun]
  exact hK' _ _ (hK v1 w1 hb hg)
end
theorem BB.str {base : Nat} {w : World} {v : Value} {l : List Int} (h : BB base w v l) : (convert 93 9 v).run Try.prog w = .ok (.string (strOfNums l)) w := by
  obtain ⟨A, c, rfl, hr⟩ := h.reads
  exact string_of_reads (P := Try.prog) Try.underlying93 Try.underlying5 Try.underlying9 hr
end Go.Proofs.Ytefdokolbdnjnaa.Sa
