import Derived.Lib.Overlaps
import Derived.Lib.AppendZerosOnto
import Derived.Laws.CopyOwn
import Derived.Laws.OwnMore
import Derived.Shelf.RegionOpenPlain
import Derived.WalkKit
import Derived.Laws.Externs
/- Trimmed by a program. By an AI agent. -/
namespace Go.Proofs.Ytcbfnmabckjijaa.Si
open Go.RowKit Go.Lib
set_option linter.unusedVariables false
set_option linter.unusedSimpArgs false

theorem run_copy_sz {P : Program} (w : World) (dT sT ty elem : TypeId) (sz : Nat) (g o dLen dCap : Nat) (a : Addr) (sLen sCap : Nat) (cur : Array Value) (t : TypeId) (cs : List Value)
  (hu : P.underlying dT = some (.slice elem)) (hs : (P.info? elem).map (·.size) = some sz)
  (hg : w.heap[g]? = some (.cells cur t (0, 0))) (k : Nat) (hk : Nat.min sLen dLen = k) (hn : cs.length = k * sz)
  (hsrc : ∀ j v, cs[j]? = some v → w.cell? (a.add j) = some v) (hfit : o + cs.length ≤ cur.size) (h1 : ∀ v ∈ cs, v.oneCell' = true) :
  (Builtin.copy_ #[dT, sT] ty #[.slice (some ⟨g, o, none⟩) dLen dCap, .slice (some a) sLen sCap]).run P w =
   .ok (goInt k) (w.setRow g (splice cur.toList o cs).toArray) := by
 subst hk
 have hl := run_loadCells_list (P := P) w a cs hsrc
 have hst := run_storeCells_at P g o t cs 0 cur w hg (by simpa using hfit) h1
 cases hq : P.info? elem with
 | none => simp [hq] at hs
 | some i =>
  have hi : i.size = sz := by simpa [hq] using hs
  simp [Builtin.copy_, run_underlying hu, Builtin.lenOf, Builtin.firstCells, sizeOf, typeInfo, hq, hi, ← hn, hl, hst, splice]

theorem wp_copy_sz (P : Program) (w : World) {o : Oper} {a : Act} {K : Act → World → Prop} {Q : Exit → Act → World → Prop} (d s : Operand) (t t' : TypeId)
  (ho : o.op = .call { callee := .builtin .copy, args := #[d, s], argTypes := #[t, t'] }) (v u : Value) (hd : a.eval d = v) (hs : a.eval s = u) {v' : Value} {w' : World}
  (hr : (Builtin.copy_ #[t, t'] o.type #[v, u]).run P w = .ok v' w') (h : K (a.put o.dst v') w') : o.wp P a w K Q := by
 unfold Oper.wp execOp
 simp only [ho, resolve, invoke, builtin, Sem.run_bind, Sem.run_pure, Result.andThen_ok, List.map_toArray, List.map_cons, List.map_nil, hd, hs, hr]
 exact h
theorem step_copy_sz {P : Program} {ops : Array Oper} {o : Oper} {a : Act} {w : World} {K : Act → World → Prop} {Q : Exit → Act → World → Prop} {E : Prop}
  (hg : o.guard = none) (d x : Operand) (dT sT : TypeId) (hop : o.op = Op.call { callee := Callee.builtin Builtin.copy, args := #[d, x], argTypes := #[dT, sT] })
  (v u : Value) (hd : a.eval d = v) (hx : a.eval x = u) {v' : Value} {w' : World} (hr : (Builtin.copy_ #[dT, sT] o.type #[v, u]).run P w = .ok v' w') (hK : K (a.put o.dst v') w') :
  if Region.wanted o (yielded ops a.tmps) = true then Oper.wp P o a w K Q else E := by
 have hw : Region.wanted o (yielded ops a.tmps) = true := by simp [Region.wanted, hg]
 rw [if_pos hw]
 exact wp_copy_sz P w d x dT sT hop v u hd hx hr hK

theorem put_in {α : Type} (L P T X : List α) (s : Nat) (hX : X.length = s) (hl : P.length + T.length + s ≤ L.length) (hL : L.take (P.length + T.length) = P ++ T) :
  (splice (splice L (P.length + s) T) P.length X).take (P.length + T.length + s) = P ++ (X ++ T) := by
 obtain ⟨Y, rfl⟩ : ∃ Y, L = P ++ T ++ Y := ⟨L.drop (P.length + T.length), by rw [← hL, List.take_append_drop]⟩
 subst hX
 unfold splice
 have e1 : ((P ++ T ++ Y).take (P.length + X.length) ++ (T ++ (P ++ T ++ Y).drop (P.length + X.length + T.length))).take P.length = P := by
  rw [List.take_append_of_le_length (by simp only [List.length_take, List.length_append] at hl ⊢; omega), List.take_take, Nat.min_eq_left (by omega), List.append_assoc, List.take_left]
 have hlen : ((P ++ T ++ Y).take (P.length + X.length)).length = P.length + X.length := by rw [List.length_take]; simp only [List.length_append] at hl ⊢; omega
 have e2 : ((P ++ T ++ Y).take (P.length + X.length) ++ (T ++ (P ++ T ++ Y).drop (P.length + X.length + T.length))).drop (P.length + X.length) = T ++ (P ++ T ++ Y).drop (P.length + X.length + T.length) := by
  rw [List.drop_append_of_le_length (by omega), List.drop_eq_nil_of_le (by omega), List.nil_append]
 rw [e1, e2, show P.length + T.length + X.length = (P ++ (X ++ T)).length by simp; omega]
 rw [show P ++ (X ++ (T ++ (P ++ T ++ Y).drop (P.length + X.length + T.length))) = (P ++ (X ++ T)) ++ (P ++ T ++ Y).drop (P.length + X.length + T.length) by simp]
 exact List.take_left
theorem put_new {α : Type} (L P T X Z : List α) (s : Nat) (hX : X.length = s) (hL : L = P ++ Z) (hl : T.length + s ≤ Z.length) :
  (splice (splice L P.length X) (P.length + s) T).take (P.length + T.length + s) = P ++ (X ++ T) := by
 subst hX; subst hL
 unfold splice
 have e1 : (P ++ Z).take P.length = P := List.take_left
 rw [e1]
 have e2 : (P ++ (X ++ (P ++ Z).drop (P.length + X.length))).take (P.length + X.length) = P ++ X := by
  rw [← List.append_assoc, show P.length + X.length = (P ++ X).length by simp, List.take_left]
 rw [e2, show P.length + T.length + X.length = (P ++ (X ++ T)).length by simp; omega]
 rw [show P ++ X ++ (T ++ (P ++ (X ++ (P ++ Z).drop (P.length + X.length))).drop (P.length + X.length + T.length)) = (P ++ (X ++ T)) ++ (P ++ (X ++ (P ++ Z).drop (P.length + X.length))).drop (P.length + X.length + T.length) by simp]
 exact List.take_left
end Go.Proofs.Ytcbfnmabckjijaa.Si
