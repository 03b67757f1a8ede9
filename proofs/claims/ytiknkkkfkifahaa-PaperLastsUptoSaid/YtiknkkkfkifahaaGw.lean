import Derived.BigQuiet
import Derived.WalkKit
import Derived.Below
/-
  A region that draws its order and only reads, whose callees lay blocks of their own: walked once, in the text's order. By an AI agent.
  Use: refine wp_region_below (by kernel_rfl) (by kernel_rfl) ?_ ; repeat (go_big_quiet_step ((go_at_call K; refine Calls.gw (CONTRACT _)))) ; refine wpQuiet_nil ?_ ; rintro _ ⟨⟨w3, hb3⟩, rfl⟩ ; dsimp only.
  A load: lay '∀ p : Gw w, p.w.cell? a = some v' (Gw.cell).
-/
namespace Go
open Go.RowKit
/-- A world in which all that lay in w lies as it lay. -/
structure Gw (w0 : World) where
  w : World
  h : Below w0.heap.size w0 w
instance (w0 : World) : Inhabited (Gw w0) := ⟨⟨w0, Below.refl _ _⟩⟩
theorem wp_region_below {P : Program} {id : Nat} {Q : Exit → Act → World → Prop} {a : Act} {w : World} {l : List Oper} (hm : P.follows .mixedOrders = true) (hB : Region.lexB .any l.toArray = true)
    (h : wpQuiet P l.toArray (fun w' => ∃ p : Gw w, w' = p.w) (fun a' => ∀ w', (∃ p : Gw w, w' = p.w) → Q .normal a' w') l a) : (Code.region id l.toArray true).wp P Q a w :=
  wp_region_quiet (C := fun w' => ∃ p : Gw w, w' = p.w) hm hB ⟨⟨{ w with drawn := w.drawn + 1 }, ⟨rfl, rfl, rfl, Nat.le_refl _, fun _ _ => rfl⟩⟩, rfl⟩ (by simpa using h)
theorem Calls.gw {P : Program} {f : FuncId} {args : Array Value} {w0 : World} {p : Gw w0} {v : Value} (h : Calls P f args p.w fun e w'' => e = .returned v ∧ Below p.w.heap.size p.w w'') : Calls P f args p.w fun e w'' => e = .returned v ∧ ∃ q : Gw w0, w'' = q.w :=
  h.mono fun _ _ ⟨he, hb⟩ => ⟨he, ⟨_, p.h.trans (hb.mono p.h.size)⟩, rfl⟩
theorem Gw.cell {w : World} {a : Addr} {v : Value} (h : w.cell? a = some v) (p : Gw w) : p.w.cell? a = some v := (p.h.cell (World.block_lt_of_cell? _ _ h)).trans h
end Go
