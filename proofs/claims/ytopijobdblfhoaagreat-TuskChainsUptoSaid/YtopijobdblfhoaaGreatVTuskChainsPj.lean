import Derived.Test.YtopijobdblfhoaaGreatVTuskChainsWWords
import Derived.Test.YtopijobdblfhoaaGreatVTuskChainsWLast
import Derived.Test.YtopijobdblfhoaaGreatVTuskChainsWN
import Derived.Test.YtopijobdblfhoaaGreatVTuskChainsWApart
import Derived.Test.YtopijobdblfhoaaGreatVTuskChainsWKept
import Derived.Test.YtopijobdblfhoaaGreatVTuskChainsWAt
import Derived.Test.YtopijobdblfhoaaGreatVTuskChainsWMore
import Derived.ScopeJumps
import Derived.WalkMore
import Derived.Test.YtopijobdblfhoaaGreatVTuskChainsWTab
import Derived.KernelRfl
set_option linter.unusedVariables false
section
/- Trimmed by a program. By an AI agent. -/
namespace Go.Proofs.YtopijobdblfhoaaGreatW.PrintWords
open Go.RowKit Go.Proofs.YtopijobdblfhoaaGreatW.PrintMore
class Asc (p : Prop) : Prop where mk :: (out : p)
theorem am_ {p : Prop} (x : p) : Asc p := ⟨x⟩
class Imp (p q : Nat → Prop) : Prop where out : ∀ k, p k → q k
instance (priority := 200) Imp.andL {p q r : Nat → Prop} [h : Imp p r] : Imp (fun k => p k ∧ q k) r := ⟨fun k hk => h.out k hk.1⟩
instance (priority := 300) Imp.andR {p q r : Nat → Prop} [h : Imp q r] : Imp (fun k => p k ∧ q k) r := ⟨fun k hk => h.out k hk.2⟩
instance (priority := 900) Imp.and {p q r : Nat → Prop} [h : Imp p q] [g : Imp p r] : Imp p (fun k => q k ∧ r k) := ⟨fun k hk => ⟨h.out k hk, g.out k hk⟩⟩
instance (priority := 2000) Imp.refl {p : Nat → Prop} : Imp p p := ⟨fun _ h => h⟩
instance (priority := 950) Imp.yes {p : Nat → Prop} : Imp p (fun _ => True) := ⟨fun _ _ => trivial⟩
instance (priority := 950) Imp.nil {p : Nat → Prop} {n c : Nat} : Imp p (fun k => some k ≠ (Value.slice none n c).ownBlock) := ⟨fun _ _ => by simp [Value.ownBlock]⟩
class Qgj (ok : Nat → Prop) (g : Nat) : Prop where out : ∀ k, ok k → k ≠ g
instance (priority := 1000) Qgj.here {g : Nat} : Qgj (fun k => k ≠ g) g := ⟨fun _ h => h⟩
instance (priority := 900) Qgj.andR {p q : Nat → Prop} {g : Nat} [h : Qgj q g] : Qgj (fun k => p k ∧ q k) g := ⟨fun k hk => h.out k hk.2⟩
instance (priority := 800) Qgj.andL {p q : Nat → Prop} {g : Nat} [h : Qgj p g] : Qgj (fun k => p k ∧ q k) g := ⟨fun k hk => h.out k hk.1⟩
section
variable {w W W' W1 W2 : World} {ok ok' S : Nat → Prop}
class Far (ok : Nat → Prop) (W W' : World) : Prop where out : Kept W W' (fun k => ¬ ok k)
instance Far.refl : Far ok W W := ⟨Kept.refl _ _⟩
instance Far.alloc [h : Far ok W W'] (o : Obj) : Far ok W (W'.alloc o) := ⟨h.out.alloc o⟩
instance Far.drewN [h : Far ok W W'] (n : Nat) : Far ok W (W'.drewN n) := ⟨h.out.drewN n⟩
instance Far.drew [h : Far ok W W'] : Far ok W W'.drew := ⟨h.out.drew⟩
instance Far.set [h : Far ok W W'] {g i : Nat} {u : Value} [n : Qgj ok g] : Far ok W (W'.setCell ⟨g, i, none⟩ u) := ⟨h.out.setCell (.inl (fun hk => n.out _ hk rfl)) u⟩
theorem Qer (k : Nat) (h : ok k) : ¬ (fun k => ¬ ok k) k := fun h' => h' h
section
variable {α : Type} {d : Kd α} {e b g : Nat} {v : Value} {xs : List α}
theorem gV (x : Asc (Kd.V d e W b ok v xs)) [i : Imp ok ok'] [f : Far ok W W'] : Kd.V d e W' b ok' v xs := Kd.V_mono (Kd.V_kept x.out f.out Qer) i.out
theorem gN (x : Asc (Kd.N d e W b ok v xs)) [i : Imp ok ok'] [f : Far ok W W'] : Kd.N d e W' b ok' v xs := Kd.N_mono (Kd.N_kept x.out f.out Qer) i.out
theorem gR (x : Asc (Kd.R d e W b ok v xs)) [i : Imp ok ok'] [f : Far ok W W'] : Kd.R d e W' b ok' v xs := Kd.R_mono (Kd.R_kept x.out f.out Qer) i.out
theorem hV (x : Asc (Kd.V d e W b ok v xs)) [f : Far ok W W'] : Kd.V d e W' b ok v xs := Kd.V_kept x.out f.out Qer
theorem hN (x : Asc (Kd.N d e W b ok v xs)) [f : Far ok W W'] : Kd.N d e W' b ok v xs := Kd.N_kept x.out f.out Qer
theorem hR (x : Asc (Kd.R d e W b ok v xs)) [f : Far ok W W'] : Kd.R d e W' b ok v xs := Kd.R_kept x.out f.out Qer
theorem hS (x : Asc (Kd.S d e W b ok v xs)) [f : Far ok W W'] : Kd.S d e W' b ok v xs := Kd.S_kept x.out f.out Qer
theorem tVe (x : Asc (Kd.V d e W b ok v xs)) [f : Far ok W W1] (hg : g = W1.heap.size) (hb : Below W1.heap.size W1 W2) : Asc (Kd.V d e W2 b (fun k => ok k ∧ k ≠ g) v xs) := ⟨Kd.V_below (Kd.V_elderB (gV (ok' := ok) x) g (Nat.le_of_eq hg.symm)) hb⟩
theorem tNe (x : Asc (Kd.N d e W b ok v xs)) [f : Far ok W W1] (hg : g = W1.heap.size) (hb : Below W1.heap.size W1 W2) : Asc (Kd.N d e W2 b (fun k => ok k ∧ k ≠ g) v xs) := ⟨Kd.N_below (Kd.N_elderB (gN (ok' := ok) x) g (Nat.le_of_eq hg.symm)) hb⟩
theorem tVb (x : Asc (Kd.V d e W b ok v xs)) [f : Far ok W W1] (hb : Below W1.heap.size W1 W2) : Asc (Kd.V d e W2 b ok v xs) := ⟨Kd.V_below (gV (ok' := ok) x) hb⟩
theorem tNb (x : Asc (Kd.N d e W b ok v xs)) [f : Far ok W W1] (hb : Below W1.heap.size W1 W2) : Asc (Kd.N d e W2 b ok v xs) := ⟨Kd.N_below (gN (ok' := ok) x) hb⟩
theorem tRb (x : Asc (Kd.R d e W b ok v xs)) [f : Far ok W W1] (hb : Below W1.heap.size W1 W2) : Asc (Kd.R d e W2 b ok v xs) := ⟨Kd.R_below (gR (ok' := ok) x) hb⟩
class Qb2 (w W W' : World) : Prop where
 out : Below w.heap.size w W → Below w.heap.size w W'
instance Qb2.refl : Qb2 w W W := ⟨fun h => h⟩
instance Qb2.alloc [h : Qb2 w W W'] (o : Obj) : Qb2 w W (W'.alloc o) := ⟨fun x => Qbq (h.out x) o⟩
instance Qb2.drewN [h : Qb2 w W W'] (n : Nat) : Qb2 w W (W'.drewN n) := ⟨fun x => Qbx (h.out x) n⟩
instance Qb2.drew [h : Qb2 w W W'] : Qb2 w W W'.drew := ⟨fun x => Qaj (h.out x)⟩
instance Qb2.set {g j : Nat} {v : Value} [h : Qb2 w W W'] [hg : Asc (w.heap.size ≤ g)] : Qb2 w W (W'.setCell ⟨g, j, none⟩ v) := ⟨fun x => Qax (h.out x) hg.out⟩
theorem bh (x : Asc (Below w.heap.size w W)) [h : Qb2 w W W'] : Below w.heap.size w W' := h.out x.out
theorem tHb (x : Asc (Below w.heap.size w W)) [h : Qb2 w W W1] (hb : Below W1.heap.size W1 W2) : Asc (Below w.heap.size w W2) := ⟨Qa0 (h.out x.out) hb⟩
theorem tG (x : Asc (Below w.heap.size w W)) [h : Qb2 w W W1] (hg : g = W1.heap.size) : Asc (w.heap.size ≤ g) := ⟨by rw [hg]; exact Qac (h.out x.out)⟩
class Qj7 (W W' : World) : Prop where
 out : Below W.heap.size W W'
instance Qj7.refl : Qj7 W W := ⟨Below.refl _ _⟩
instance Qj7.alloc (o : Obj) [h : Qj7 W W'] : Qj7 W (W'.alloc o) := ⟨h.out.alloc h.out.size o⟩
instance Qj7.drewN (n : Nat) [h : Qj7 W W'] : Qj7 W (W'.drewN n) := ⟨Qbx h.out n⟩
instance Qj7.drew [h : Qj7 W W'] : Qj7 W W'.drew := ⟨Qaj h.out⟩
variable {A : Option Addr} {n : Nat}
theorem gC (x : Asc (d.C W A n xs)) [h : Qj7 W W'] : d.C W' A n xs := Kd.C_below x.out h.out
theorem tCb (x : Asc (d.C W A n xs)) [h : Qj7 W W1] (hb : Below W1.heap.size W1 W2) : Asc (d.C W2 A n xs) := ⟨Kd.C_below (gC x) hb⟩
theorem gCB (x : Asc (d.C w A n xs)) (y : Asc (Below w.heap.size w W)) [h : Qb2 w W W'] : d.C W' A n xs := Kd.C_below x.out (bh y)
end
variable {g : Nat} {o : Obj} {t : TypeId} {cs cs' cs2 : Array Value}
class PeB (g : Nat) (W W' : World) : Prop where
 out : ∀ o : Obj, (∃ cs t, o = .cells cs t (0, 0)) → W.heap[g]? = some o → W'.heap[g]? = some o
instance PeB.refl : PeB g W W := ⟨fun _ _ h => h⟩
instance PeB.alloc [h : PeB g W W'] (o' : Obj) : PeB g W (W'.alloc o') := ⟨fun o k x => Qah (h.out o k x) o'⟩
instance PeB.drewN [h : PeB g W W'] (n : Nat) : PeB g W (W'.drewN n) := ⟨fun o k x => Qa7 (h.out o k x) n⟩
instance PeB.drew [h : PeB g W W'] : PeB g W W'.drew := ⟨fun o k x => Qag (h.out o k x)⟩
instance PeB.set {g' i : Nat} {u : Value} [h : PeB g W W'] [n : Asc (g ≠ g')] : PeB g W (W'.setCell ⟨g', i, none⟩ u) := ⟨fun o k x => by
 obtain ⟨cs, t, rfl⟩ := k
 exact Qg5 (h.out _ ⟨cs, t, rfl⟩ x) n.out u⟩
theorem gB (x : Asc (W.heap[g]? = some (.cells cs t (0, 0)))) [h : PeB g W W'] : W'.heap[g]? = some (.cells cs t (0, 0)) := h.out _ ⟨_, _, rfl⟩ x.out
theorem tBb (x : Asc (W.heap[g]? = some (.cells cs t (0, 0)))) [h : PeB g W W1] (hb : Below W1.heap.size W1 W2) : Asc (W2.heap[g]? = some (.cells cs t (0, 0))) := ⟨Qam (gB x) hb⟩
theorem tBg {row : Option Nat} (x : Asc (W.heap[g]? = some (.cells cs t (0, 0)))) [h : PeB g W W1] (hg : W1.grownBy W2 row) (hne : some g ≠ row) : Asc (W2.heap[g]? = some (.cells cs t (0, 0))) := ⟨Qcy (gB x) hg hne⟩
theorem gLt (x : Asc (W.heap[g]? = some (.cells cs t (0, 0)))) [h : PeB g W W'] : g < W'.heap.size := Qb7 (gB x)
theorem gFr (x : Asc (W.heap[g]? = some (.cells cs t (0, 0)))) [h : PeB g W W'] (k : Nat) (hk : W'.heap.size ≤ k) : k ≠ g := Kd.freshB (gB x) k hk
theorem tL {g' : Nat} (x : Asc (W.heap[g]? = some (.cells cs t (0, 0)))) [h : PeB g W W1] (hg : g' = W1.heap.size) : Asc (g ≠ g') := ⟨by rw [hg]; exact Nat.ne_of_lt (gLt x)⟩
theorem tR {g' : Nat} (x : Asc (W.heap[g]? = some (.cells cs t (0, 0)))) [h : PeB g W W1] (hg : g' = W1.heap.size) : Asc (g' ≠ g) := ⟨by rw [hg]; exact Nat.ne_of_gt (gLt x)⟩
class PeC (g : Nat) (W W' : World) (cs : Array Value) (cs' : outParam (Array Value)) : Prop where
 out : ∀ t : TypeId, W.heap[g]? = some (.cells cs t (0, 0)) → W'.heap[g]? = some (.cells cs' t (0, 0))
instance PeC.refl : PeC g W W cs cs := ⟨fun _ h => h⟩
instance PeC.alloc [h : PeC g W W' cs cs'] (o' : Obj) : PeC g W (W'.alloc o') cs cs' := ⟨fun t x => Qah (h.out t x) o'⟩
instance PeC.drewN [h : PeC g W W' cs cs'] (n : Nat) : PeC g W (W'.drewN n) cs cs' := ⟨fun t x => Qa7 (h.out t x) n⟩
instance PeC.drew [h : PeC g W W' cs cs'] : PeC g W W'.drew cs cs' := ⟨fun t x => Qag (h.out t x)⟩
instance (priority := 1100) PeC.put {i : Nat} {u : Value} [h : PeC g W W' cs cs'] : PeC g W (W'.setCell ⟨g, i, none⟩ u) cs (cs'.setIfInBounds i u) := ⟨fun t x => Qau (h.out t x) i u rfl⟩
instance PeC.far {g' i : Nat} {u : Value} [h : PeC g W W' cs cs'] [n : Asc (g ≠ g')] : PeC g W (W'.setCell ⟨g', i, none⟩ u) cs cs' := ⟨fun t x => Qg5 (h.out t x) n.out u⟩
theorem gP (x : Asc (W.heap[g]? = some (.cells cs t (0, 0)))) [h : PeC g W W' cs cs'] (e : cs' = cs2) : W'.heap[g]? = some (.cells cs2 t (0, 0)) := e ▸ h.out t x.out
variable {v0 v1 v2 v3 v4 v5 v6 v7 : Value}
theorem bx2 (x : Asc (W.heap[g]? = some (.cells #[v0, v1] t (0, 0)))) : W.cell? ⟨g, 0, none⟩ = some v0 ∧ W.cell? ⟨g, 1, none⟩ = some v1 ∧ W.frozen? ⟨g, 0, none⟩ = false ∧ W.frozen? ⟨g, 1, none⟩ = false := ⟨Qaa x.out 0, Qaa x.out 1, Qad x.out 0, Qad x.out 1⟩
theorem bx3 (x : Asc (W.heap[g]? = some (.cells #[v0, v1, v2] t (0, 0)))) : W.cell? ⟨g, 0, none⟩ = some v0 ∧ W.cell? ⟨g, 1, none⟩ = some v1 ∧ W.cell? ⟨g, 2, none⟩ = some v2 ∧ W.frozen? ⟨g, 0, none⟩ = false ∧ W.frozen? ⟨g, 1, none⟩ = false ∧ W.frozen? ⟨g, 2, none⟩ = false := ⟨Qaa x.out 0, Qaa x.out 1, Qaa x.out 2, Qad x.out 0, Qad x.out 1, Qad x.out 2⟩
theorem bx6 (x : Asc (W.heap[g]? = some (.cells #[v0, v1, v2, v3, v4, v5] t (0, 0)))) : W.cell? ⟨g, 0, none⟩ = some v0 ∧ W.cell? ⟨g, 1, none⟩ = some v1 ∧ W.cell? ⟨g, 2, none⟩ = some v2 ∧ W.cell? ⟨g, 3, none⟩ = some v3 ∧ W.cell? ⟨g, 4, none⟩ = some v4 ∧ W.cell? ⟨g, 5, none⟩ = some v5 ∧ W.frozen? ⟨g, 0, none⟩ = false ∧ W.frozen? ⟨g, 1, none⟩ = false ∧ W.frozen? ⟨g, 2, none⟩ = false ∧ W.frozen? ⟨g, 3, none⟩ = false ∧ W.frozen? ⟨g, 4, none⟩ = false ∧ W.frozen? ⟨g, 5, none⟩ = false :=
 ⟨Qaa x.out 0, Qaa x.out 1, Qaa x.out 2, Qaa x.out 3, Qaa x.out 4, Qaa x.out 5, Qad x.out 0, Qad x.out 1, Qad x.out 2, Qad x.out 3, Qad x.out 4, Qad x.out 5⟩
theorem bx7 (x : Asc (W.heap[g]? = some (.cells #[v0, v1, v2, v3, v4, v5, v6] t (0, 0)))) : W.cell? ⟨g, 0, none⟩ = some v0 ∧ W.cell? ⟨g, 1, none⟩ = some v1 ∧ W.cell? ⟨g, 2, none⟩ = some v2 ∧ W.cell? ⟨g, 3, none⟩ = some v3 ∧ W.cell? ⟨g, 4, none⟩ = some v4 ∧ W.cell? ⟨g, 5, none⟩ = some v5 ∧ W.cell? ⟨g, 6, none⟩ = some v6 ∧ W.frozen? ⟨g, 0, none⟩ = false ∧ W.frozen? ⟨g, 1, none⟩ = false ∧ W.frozen? ⟨g, 2, none⟩ = false ∧ W.frozen? ⟨g, 3, none⟩ = false ∧ W.frozen? ⟨g, 4, none⟩ = false ∧ W.frozen? ⟨g, 5, none⟩ = false ∧ W.frozen? ⟨g, 6, none⟩ = false :=
 ⟨Qaa x.out 0, Qaa x.out 1, Qaa x.out 2, Qaa x.out 3, Qaa x.out 4, Qaa x.out 5, Qaa x.out 6, Qad x.out 0, Qad x.out 1, Qad x.out 2, Qad x.out 3, Qad x.out 4, Qad x.out 5, Qad x.out 6⟩
end
theorem kS {k1 k : Nat} (h : Asc (k1 + 1 ≤ k)) : Asc (k1 ≤ k) := ⟨Nat.le_of_succ_le h.out⟩
section
variable {α : Type} {p : Prop} [Decidable p] {a : Option α} {r : α} {G : Prop}
theorem gi (f : decide p = true → a = some r → G) (H : (if p then a else none) = some r) : G := by
 by_cases h : p
 ·
  rw [if_pos h] at H; exact f (decide_eq_true h) H
 ·
  rw [if_neg h] at H; cases H
theorem gi' (f : p → a = some r → G) (H : (if p then a else none) = some r) : G := by
 by_cases h : p
 ·
  rw [if_pos h] at H; exact f h H
 ·
  rw [if_neg h] at H; cases H
end
theorem ce {w W : World} {a : Addr} {v : Value} (h : Asc (Below w.heap.size w W)) (x : w.cell? a = some v) : W.cell? a = some v := (h.out.cell (World.block_lt_of_cell? w _ x)).trans x
theorem least_ {R : Nat → Prop} : ∀ n, R n → ∃ m, R m ∧ ∀ j, R j → m ≤ j := by
 intro n
 induction n using Nat.strongRecOn with
 | ind n ih =>
  intro hn
  by_cases h : ∃ j, j < n ∧ R j
  ·
   obtain ⟨j, hj, hr⟩ := h; exact ih j hj hr
  ·
   exact ⟨n, hn, fun j hj => Nat.le_of_not_lt fun hl => h ⟨j, hl, hj⟩⟩
theorem Qfl {P : Program} {a : Act} {w : World} {Q : Exit → Act → World → Prop} {c rest : Code} (l : Nat) (R : Nat → Act → World → Prop) (hf : findLabel c l = some (Code.skip.seq rest))
  (pass : ∀ k a w, R k a w → rest.wp P (Exit.jump l (fun a' w' => ∃ k1, k1 < k ∧ R k1 a' w') Q) a w)
  (first : (∀ a w k, R k a w → rest.wp P (Exit.jump l (fun a' w' => ∃ k1, R k1 a' w') Q) a w) → c.wp P (Exit.jump l (fun a' w' => ∃ k1, R k1 a' w') Q) a w) : (Code.scope c).wp P Q a w := by
 classical
 have hm : ∀ a w, ∃ m, (∃ k, R k a w) → R m a w ∧ ∀ j, R j a w → m ≤ j := fun a w => by
  by_cases h : ∃ k, R k a w
  ·
   obtain ⟨k, hk⟩ := h; obtain ⟨m, h1, h2⟩ := least_ (R := fun j => R j a w) k hk; exact ⟨m, fun _ => ⟨h1, h2⟩⟩
  ·
   exact ⟨0, fun h' => absurd h' h⟩
 refine wp_scope_jumps l (fun a w => ∃ k, R k a w) (fun a w => (hm a w).choose) hf (first fun a w k hR => Code.wp_mono (fun e a' w' h => by
  cases e with
  | goto l' => exact ⟨h.1, h.2.imp fun _ h => h.2⟩
  | _ => exact h) (pass k a w hR)) (fun a w hJ => wp_seq (wp_skip (Code.wp_mono (fun e a' w' h => by
   cases e with
   | goto l' =>
    obtain ⟨h1, k1, hlt, hR⟩ := h; refine ⟨h1, ⟨k1, hR⟩, Nat.lt_of_le_of_lt (((hm a' w').choose_spec ⟨k1, hR⟩).2 k1 hR) hlt⟩
   | _ => exact h) (pass (hm a w).choose a w ((hm a w).choose_spec hJ).1))))
end Go.Proofs.YtopijobdblfhoaaGreatW.PrintWords
end
section
/- Trimmed by a program. By an AI agent. -/
namespace Go.Proofs.YtopijobdblfhoaaGreatW.PrintWords
open Go.RowKit Go.Proofs.YtopijobdblfhoaaGreatW.PrintLast Go.Proofs.YtopijobdblfhoaaGreatW.PrintMore
def bts (n m : Nat) : Array Bool := ((List.range n).map m.testBit).toArray
section
variable {P : Program} {ops : Array Oper} {Q : Exit → Act → World → Prop} {md : Region.Mode} {S : World → Prop} {ds : List Nat} {T : Bool × List (List Nat × List Nat)} {B : List Nat} {oi : Oper} {v : Value} {fuel : Nat} {l l' : Array Bool} {a a' : Act} {w : World}
theorem pu_ (i : Nat) (N : Option Tmp) (m : Nat) (hT : Qan (Qcp md ops = T))
  (hi : ops[i]? = some oi := by exact rfl) (hN : oi.dst = N := by exact rfl) (hc : anyT T l.toList (bts ops.size m).toList i = true := by kernel_rfl) (hQ : ∀ c a w, Q (.panic c) (a.put oi.dst v) w → Q (.panic c) a w := by exact fun _ _ _ h => h)
  (hw : Region.wanted oi (yielded ops a.tmps) = true := by rfl) (hy : ∀ w', (execOp a.eval oi).run P w' = .ok (.value v) w' := by intro w'; go_simp; with_reducible rfl)
  (ha : a.put N v = a' := by simp only [Act.put, List.setIfInBounds_toArray, List.set_cons_zero, List.set_cons_succ, Qay, Qa3]; rfl)
  (h : Qai P md ops Q S ds fuel (bts ops.size m) a' w) : Qai P md ops Q S ds (fuel + 1) l a w :=
 Qjd _ hi hN (Qp6 hT.out hc) hQ (Or.inl ⟨hw, hy⟩) ha h
theorem tk_ (i : Nat) (N : Option Tmp) (m : Nat) (hT : Qan (Qcp md ops = T)) (hW : Qan (Qbi T.2 B = true)) (hS : S w)
  (hi : ops[i]? = some oi := by exact rfl) (hN : oi.dst = N := by exact rfl) (hc : takeW T B ds l.toList (bts ops.size m).toList i = true := by kernel_rfl) (hQ : ∀ c a w, Q (.panic c) (a.put oi.dst v) w → Q (.panic c) a w := by exact fun _ _ _ h => h)
  (hw : Region.wanted oi (yielded ops a.tmps) = true := by rfl) (hy : ∀ w', S w' → (execOp a.eval oi).run P w' = .ok (.value v) w' := by intro w' hs_; (repeat (obtain ⟨_, hs_⟩ := hs_)); go_simp; with_reducible rfl)
  (ha : a.put N v = a' := by simp only [Act.put, List.setIfInBounds_toArray, List.set_cons_zero, List.set_cons_succ, Qay, Qa3]; rfl)
  (h : Qai P md ops Q S ds fuel (bts ops.size m) a' w) : Qai P md ops Q S ds (fuel + 1) l a w :=
 take_ _ hi hN (Qnz hT.out hW.out hc) hQ (Or.inl ⟨hw, hy⟩) hS ha h
end
section
variable {P : Program} {ops : Array Oper} {rest : List Oper} {o : Oper} {a : Act} {Q : Exit → Act → World → Prop} {W : World}
theorem gd_ (N : Tmp) (h : wpList P ops Q (o :: rest) a W) (hN : o.dst = some N := by rfl) : wpList P ops Q (o :: rest) a W := h
theorem be_ (N : Tmp) (cs : Array Value) (t : TypeId)
  (h : ∀ g, g = W.heap.size → ∀ w1, w1.heap[g]? = some (.cells cs t (0, 0)) → Below W.heap.size W w1 → wpList P ops Q rest (a.put o.dst (.pointer (some ⟨g, 0, none⟩))) w1)
  (hgd : o.guard = none := by rfl) (hd : o.dst = some N := by rfl)
  (hrun : (execOp a.eval o).run P W = .ok (.value (.pointer (some ⟨W.heap.size, 0, none⟩))) (W.alloc (.cells cs t (0, 0))) := by first | (go_simp; done) | (go_simp; rfl)) : wpList P ops Q (o :: rest) a W :=
 Qlv hgd hd hrun h
theorem gl_ {f : FuncId} {fn : Func} {as : Array Operand} {ts : Array TypeId} (N : Option Tmp) (hf : P.funcs[f]? = some fn) (args : Array Value)
  (h : Calls P f args W fun e w' => ∃ v, e = .returned v ∧ wpList P ops Q rest (a.put N v) w')
  (hd : o.dst = N := by rfl) (hg : o.guard = none := by rfl) (hname : (fn.name == "runtime.NumGoroutine") = false := by kernel_rfl) (hb : fn.body.isSome = true := by rfl)
  (hop : o.op = .call { callee := .value (.func f), args := as, argTypes := ts } := by exact rfl)
  (hargs : as.map a.eval = args := by (try simp only [List.map_toArray, List.map_cons, List.map_nil]); first | done | rfl | (simp only [List.length_drop, List.length_take]; rfl)) : wpList P ops Q (o :: rest) a W :=
 goesL_ N hd hg hf hname hb args hop hargs h
theorem se_ (t : TypeId) (p : Tmp) (w1 : World) {v : Operand} (h : ∀ w', w' = w1 → wpList P ops Q rest a w')
  (hgd : o.guard = none := by rfl) (ho : o.op = .store t (.tmp p) v := by exact rfl) (hN : o.dst = none := by rfl)
  (hrun : (execOp a.eval o).run P W = .ok .skip w1 := by first | (go_simp; done) | (go_simp; rfl)) : wpList P ops Q (o :: rest) a W :=
 Qji hgd ho hN hrun h
end
theorem fr {p : Prop} (h : p := by first | rfl | (simp; done) | (simp [*]; done)) : p := h
theorem fe {p : Prop} (h : p := by first | rfl | (simp <;> rfl) | (simp [*] <;> rfl)) : p := h
theorem dt {p : Prop} [Decidable p] (h : decide p = true := by assumption) : p := of_decide_eq_true h
theorem kn {p : Prop} (h : p := by first | exact Kd.R_nil _ _ _ _ _ | exact Kd.N_nil _ _ _ _ _ | exact Kd.V_nil _ _ _ _ _ | exact Kd.Q_nil _ _ _ _ _ | exact Kd.S_nil _ _ _ _ _) : p := h
end Go.Proofs.YtopijobdblfhoaaGreatW.PrintWords
end
section
/- Trimmed by a program. By an AI agent. -/
namespace Go.Proofs.YtopijobdblfhoaaGreatW.PrintWords
open Go.RowKit Go.Proofs.YtopijobdblfhoaaGreatW.PrintLast Go.Proofs.YtopijobdblfhoaaGreatW.PrintMore
section
variable {α : Type} {d : Kd α} {e b g : Nat} {v : Value} {xs : List α} {w W W' W2 : World} {ok : Nat → Prop} {t : TypeId} {cs cs' cs2 : Array Value} {A : Option Addr} {n : Nat}
theorem oe (hw : Asc (w.heap.size ≤ g)) (x : Asc (W.heap[g]? = some (.cells cs t (0, 0)))) [h : PeB g W W'] {k : Nat} (hk : k < w.heap.size ∨ W'.heap.size ≤ k) : k ≠ g :=
 hk.elim (fun hs e => Nat.not_le.2 hs (by rw [e]; exact hw.out)) (fun hn => gFr x k hn)
theorem lo (S : Nat → Prop) (x : Kd.V d e W W2.heap.size ok v xs) (f : ∀ k, ok k → S k) (hB : Asc (Below w.heap.size w W')) [h : Qb2 w W' W2] : Asc (Kd.V d e W w.heap.size S v xs) :=
 ⟨Kd.V_lower (Kd.V_mono (ok' := S) x f) (Qac (bh hB))⟩
theorem loN (S : Nat → Prop) (x : Kd.N d e W W2.heap.size ok v xs) (f : ∀ k, ok k → S k) (hB : Asc (Below w.heap.size w W')) [h : Qb2 w W' W2] : Asc (Kd.N d e W w.heap.size S v xs) :=
 ⟨Kd.N_lower (Kd.N_mono (ok' := S) x f) (Qac (bh hB))⟩
theorem gVw (ok' : Nat → Prop) (x : Asc (Kd.V d e W b ok v xs)) (hw : W2 = W') [i : Imp ok ok'] [f : Far ok W W'] : Asc (Kd.V d e W2 b ok' v xs) := ⟨by rw [hw]; exact gV x⟩
theorem gNw (ok' : Nat → Prop) (x : Asc (Kd.N d e W b ok v xs)) (hw : W2 = W') [i : Imp ok ok'] [f : Far ok W W'] : Asc (Kd.N d e W2 b ok' v xs) := ⟨by rw [hw]; exact gN x⟩
theorem sB (x : Asc (W.heap[g]? = some (.cells cs t (0, 0)))) (hw : W2 = W') [h : PeB g W W'] : Asc (W2.heap[g]? = some (.cells cs t (0, 0))) := ⟨by rw [hw]; exact gB x⟩
theorem sP (cs2 : Array Value) (x : Asc (W.heap[g]? = some (.cells cs t (0, 0)))) (hw : W2 = W') [h : PeC g W W' cs cs'] (e : cs' = cs2 := by rfl) : Asc (W2.heap[g]? = some (.cells cs2 t (0, 0))) := ⟨by rw [hw]; exact gP x e⟩
theorem sH (x : Asc (Below w.heap.size w W)) (hw : W2 = W') [h : Qb2 w W W'] : Asc (Below w.heap.size w W2) := ⟨by rw [hw]; exact bh x⟩
theorem tN {g' : Nat} (x : Asc (W.heap[g]? = some (.cells cs t (0, 0)))) [h : PeB g W W'] (hg : g' = W'.heap.size) : Asc (g ≠ g') ∧ Asc (g' ≠ g) := ⟨tL x hg, tR x hg⟩
theorem n2 {g' : Nat} (h : Asc (g ≠ g')) : g ≠ g' ∧ g' ≠ g := ⟨h.out, h.out.symm⟩
theorem a2 {p q : Prop} (h : p) (h' : q) : Asc p ∧ Asc q := ⟨⟨h⟩, ⟨h'⟩⟩
end
section
variable {g : Nat} {a : Addr} {v v0 v1 v2 v3 v4 v5 v6 : Value} {R : World → Prop} {W : World} {t : TypeId}
def qt : World → Prop := fun _ => True
theorem ct : qt W := trivial
def q1 (a : Addr) (v : Value) (R : World → Prop) : World → Prop := fun w => w.cell? a = some v ∧ R w
theorem c1_ (x : W.cell? a = some v) (r : R W.drew) : q1 a v R W.drew := ⟨x, r⟩
theorem cd_ (x : W.drew.cell? a = some v) (r : R W.drew) : q1 a v R W.drew := ⟨x, r⟩
abbrev qb (g i : Nat) (v : Value) (R : World → Prop) : World → Prop := q1 ⟨g, i, none⟩ v R
theorem k2_ (x : Asc (W.heap[g]? = some (.cells #[v0, v1] t (0, 0)))) (r : R W.drew) : qb g 0 v0 (qb g 1 v1 R) W.drew := ⟨Qaa x.out 0, Qaa x.out 1, r⟩
theorem k3_ (x : Asc (W.heap[g]? = some (.cells #[v0, v1, v2] t (0, 0)))) (r : R W.drew) : qb g 0 v0 (qb g 1 v1 (qb g 2 v2 R)) W.drew := ⟨Qaa x.out 0, Qaa x.out 1, Qaa x.out 2, r⟩
theorem k6_ (x : Asc (W.heap[g]? = some (.cells #[v0, v1, v2, v3, v4, v5] t (0, 0)))) (r : R W.drew) : qb g 0 v0 (qb g 1 v1 (qb g 2 v2 (qb g 3 v3 (qb g 4 v4 (qb g 5 v5 R))))) W.drew :=
 ⟨Qaa x.out 0, Qaa x.out 1, Qaa x.out 2, Qaa x.out 3, Qaa x.out 4, Qaa x.out 5, r⟩
theorem k7_ (x : Asc (W.heap[g]? = some (.cells #[v0, v1, v2, v3, v4, v5, v6] t (0, 0)))) (r : R W.drew) : qb g 0 v0 (qb g 1 v1 (qb g 2 v2 (qb g 3 v3 (qb g 4 v4 (qb g 5 v5 (qb g 6 v6 R)))))) W.drew :=
 ⟨Qaa x.out 0, Qaa x.out 1, Qaa x.out 2, Qaa x.out 3, Qaa x.out 4, Qaa x.out 5, Qaa x.out 6, r⟩
theorem m0_ (x : W.cell? a = some v) (r : R W) : q1 a v R W := ⟨x, r⟩
theorem m2_ (x : Asc (W.heap[g]? = some (.cells #[v0, v1] t (0, 0)))) (r : R W) : qb g 0 v0 (qb g 1 v1 R) W := ⟨Qaa x.out 0, Qaa x.out 1, r⟩
theorem m3_ (x : Asc (W.heap[g]? = some (.cells #[v0, v1, v2] t (0, 0)))) (r : R W) : qb g 0 v0 (qb g 1 v1 (qb g 2 v2 R)) W := ⟨Qaa x.out 0, Qaa x.out 1, Qaa x.out 2, r⟩
theorem m6_ (x : Asc (W.heap[g]? = some (.cells #[v0, v1, v2, v3, v4, v5] t (0, 0)))) (r : R W) : qb g 0 v0 (qb g 1 v1 (qb g 2 v2 (qb g 3 v3 (qb g 4 v4 (qb g 5 v5 R))))) W :=
 ⟨Qaa x.out 0, Qaa x.out 1, Qaa x.out 2, Qaa x.out 3, Qaa x.out 4, Qaa x.out 5, r⟩
theorem m7_ (x : Asc (W.heap[g]? = some (.cells #[v0, v1, v2, v3, v4, v5, v6] t (0, 0)))) (r : R W) : qb g 0 v0 (qb g 1 v1 (qb g 2 v2 (qb g 3 v3 (qb g 4 v4 (qb g 5 v5 (qb g 6 v6 R)))))) W :=
 ⟨Qaa x.out 0, Qaa x.out 1, Qaa x.out 2, Qaa x.out 3, Qaa x.out 4, Qaa x.out 5, Qaa x.out 6, r⟩
end
theorem Qob (n : Nat) : Array.replicate n false = bts n 0 := by
 have h : ∀ l : List Nat, l.map (Nat.testBit 0) = List.replicate l.length false := fun l => by
  induction l with
  | nil => rfl
  | cons a l ih => rw [List.map_cons, ih, Nat.zero_testBit]; rfl
 unfold bts; rw [h, List.length_range]; simp
theorem st_ {P : Program} {ops : Array Oper} {Q : Exit → Act → World → Prop} {S : World → Prop} {id : Nat} {a : Act} {w : World} (n : Nat) (ds : List Nat) (hS : S w.drew)
  (h : S w.drew → Qai P .any ops Q S ds n (bts n 0) a w.drew) (hm : P.follows .mixedOrders = true := by kernel_rfl) (hn : ops.size = n := by rfl) : (Code.region id ops true).wp P Q a w :=
 Qcw (bts n 0) hm hn (Qob n) hS h
end Go.Proofs.YtopijobdblfhoaaGreatW.PrintWords
end
section
/- Trimmed by a program. By an AI agent. -/
namespace Go.Proofs.YtopijobdblfhoaaGreatW.PrintWords
open Go.RowKit Go.Proofs.YtopijobdblfhoaaGreatW.PrintLast Go.Proofs.YtopijobdblfhoaaGreatW.PrintMore
theorem bi {α β : Type} {o : Option α} {f : α → Option β} {b : β} (h : o.bind f = some b) : ∃ a, Asc (o = some a) ∧ f a = some b := by
 obtain ⟨a, h1, h2⟩ := Option.bind_eq_some_iff.mp h; exact ⟨a, ⟨h1⟩, h2⟩
theorem ib {α : Type} {c : Bool} {x y : Option α} {v : α} (h : (if c = true then x else y) = some v) : c = true ∧ x = some v ∨ c = false ∧ y = some v := by
 cases c with
 | true => exact .inl ⟨rfl, by simpa using h⟩
 | false => exact .inr ⟨rfl, by simpa using h⟩
theorem et {α : Type} [BEq α] [LawfulBEq α] {a b : α} (h : a = b) : (a == b) = true ∧ (a != b) = false := ⟨beq_iff_eq.mpr h, bne_eq_false_iff_eq.mpr h⟩
theorem ef {α : Type} [BEq α] [LawfulBEq α] {a b : α} (h : ¬ a = b) : (a == b) = false ∧ (a != b) = true := ⟨beq_eq_false_iff_ne.mpr h, bne_iff_ne.mpr h⟩
theorem oi2 {T0 T1 : Type} {a0 b0 : T0} {a1 b1 : T1} (h : some (a0, a1) = some (b0, b1)) : a0 = b0 ∧ a1 = b1 := by simpa only [Option.some.injEq, Prod.mk.injEq] using h
theorem oi3 {T0 T1 T2 : Type} {a0 b0 : T0} {a1 b1 : T1} {a2 b2 : T2} (h : some (a0, a1, a2) = some (b0, b1, b2)) : a0 = b0 ∧ a1 = b1 ∧ a2 = b2 := by simpa only [Option.some.injEq, Prod.mk.injEq] using h
theorem oi4 {T0 T1 T2 T3 : Type} {a0 b0 : T0} {a1 b1 : T1} {a2 b2 : T2} {a3 b3 : T3} (h : some (a0, a1, a2, a3) = some (b0, b1, b2, b3)) : a0 = b0 ∧ a1 = b1 ∧ a2 = b2 ∧ a3 = b3 := by simpa only [Option.some.injEq, Prod.mk.injEq] using h
theorem oi8 {T0 T1 T2 T3 T4 T5 T6 T7 : Type} {a0 b0 : T0} {a1 b1 : T1} {a2 b2 : T2} {a3 b3 : T3} {a4 b4 : T4} {a5 b5 : T5} {a6 b6 : T6} {a7 b7 : T7} (h : some (a0, a1, a2, a3, a4, a5, a6, a7) = some (b0, b1, b2, b3, b4, b5, b6, b7)) : a0 = b0 ∧ a1 = b1 ∧ a2 = b2 ∧ a3 = b3 ∧ a4 = b4 ∧ a5 = b5 ∧ a6 = b6 ∧ a7 = b7 := by simpa only [Option.some.injEq, Prod.mk.injEq] using h
theorem dT {p : Prop} [Decidable p] (h : p) : decide p = true := decide_eq_true h
theorem dF {p : Prop} [Decidable p] (h : ¬ p) : decide p = false := decide_eq_false h
section
variable {α : Type} {d : Kd α} {e b g n : Nat} {v : Value} {xs : List α} {w W W' W2 : World} {ok p q S : Nat → Prop} {t : TypeId} {cs : Array Value} {A : Option Addr} {c : Nat}
instance Imp.lt [h : Asc (w.heap.size ≤ g)] : Imp (fun k => k < w.heap.size) (fun k => k ≠ g) := ⟨fun k hk e => Nat.not_le.2 hk (by rw [e]; exact h.out)⟩
theorem ge_ (h : ∀ k, n ≤ k → S k := by intro k_ hk_; repeat' first | exact .inr (Nat.le_trans (Qac (bh (by assumption))) hk_) | exact Nat.le_trans (Qac (bh (by assumption))) hk_ | exact gFr (by assumption) k_ hk_ | exact trivial | refine And.intro ?_ ?_) : ∀ k, n ≤ k → S k := h
theorem lq (S : Nat → Prop) (x : Kd.V d e W W2.heap.size (fun k => p k ∨ n ≤ k) v xs) (hB : Asc (Below w.heap.size w W')) [h : Qb2 w W' W2] [i : Imp p S]
  (g : ∀ k, n ≤ k → S k := by intro k_ hk_; repeat' first | exact .inr (Nat.le_trans (Qac (bh (by assumption))) hk_) | exact Nat.le_trans (Qac (bh (by assumption))) hk_ | exact gFr (by assumption) k_ hk_ | exact trivial | refine And.intro ?_ ?_) : Asc (Kd.V d e W w.heap.size S v xs) :=
 lo S x (fun k hk => hk.elim (i.out k) (g k)) hB
theorem lqN (S : Nat → Prop) (x : Kd.N d e W W2.heap.size (fun k => p k ∨ n ≤ k) v xs) (hB : Asc (Below w.heap.size w W')) [h : Qb2 w W' W2] [i : Imp p S]
  (g : ∀ k, n ≤ k → S k := by intro k_ hk_; repeat' first | exact .inr (Nat.le_trans (Qac (bh (by assumption))) hk_) | exact Nat.le_trans (Qac (bh (by assumption))) hk_ | exact gFr (by assumption) k_ hk_ | exact trivial | refine And.intro ?_ ?_) : Asc (Kd.N d e W w.heap.size S v xs) :=
 loN S x (fun k hk => hk.elim (i.out k) (g k)) hB
theorem vC (x : Asc (Kd.V d e W b ok (.slice A n c) xs)) [h : Qj7 W W'] : d.C W' A xs.length xs := Kd.C_below (Kd.V_reads' x.out).2.2 h.out
theorem vL (x : Asc (Kd.V d e W b ok (.slice A n c) xs)) : n ≤ c := (Kd.V_reads' x.out).2.1
end
section
variable {P : Program} {ops : Array Oper} {rest : List Oper} {o : Oper} {a : Act} {Q : Exit → Act → World → Prop} {w W : World}
theorem bf_ {W0 : World} (N : Tmp) (cs : Array Value) (t : TypeId) (HB : Asc (Below w.heap.size w W0)) [hP : Qb2 w W0 W]
  (h : ∀ g, g = W.heap.size → ∀ w1, Below W.heap.size W w1 → Asc (w1.heap[g]? = some (.cells cs t (0, 0))) → Asc (w.heap.size ≤ g) → Asc (Below w.heap.size w w1) → wpList P ops Q rest (a.put o.dst (.pointer (some ⟨g, 0, none⟩))) w1)
  (hgd : o.guard = none := by rfl) (hd : o.dst = some N := by rfl)
  (hrun : (execOp a.eval o).run P W = .ok (.value (.pointer (some ⟨W.heap.size, 0, none⟩))) (W.alloc (.cells cs t (0, 0))) := by first | (go_simp; done) | (go_simp; rfl)) : wpList P ops Q (o :: rest) a W :=
 be_ N cs t (fun g hg w1 hbox hb => h g hg w1 hb ⟨hbox⟩ (tG HB hg) (tHb HB hb)) hgd hd hrun
end
section
variable {P : Program} {ops : Array Oper} {Q : Exit → Act → World → Prop} {md : Region.Mode} {S : World → Prop} {ds : List Nat} {T : Bool × List (List Nat × List Nat)} {B : List Nat} {oi : Oper} {v : Value} {fuel : Nat} {l l' : Array Bool} {a a' : Act} {w : World} {K : Act → World → Prop}
theorem pt_ {N : Option Tmp} (h : a.put N v = a' := by simp only [Act.put, List.setIfInBounds_toArray, List.set_cons_zero, List.set_cons_succ, Qay, Qa3]; rfl) : a.put N v = a' := h
theorem Qdo {f : FuncId} {fn : Func} {as : Array Operand} {ts : Array TypeId} {N : Option Tmp} (hf : P.funcs[f]? = some fn) (args : Array Value)
  (h : Calls P f args w fun e w' => ∃ v, e = .returned v ∧ K (a.put N v) w')
  (hname : (fn.name == "runtime.NumGoroutine") = false := by kernel_rfl) (hb : fn.body.isSome = true := by rfl)
  (hw : Region.wanted oi (yielded ops a.tmps) = true := by rfl) (hN : oi.dst = N := by rfl) (hop : oi.op = .call { callee := .value (.func f), args := as, argTypes := ts } := by rfl)
  (hargs : as.map a.eval = args := by (try simp only [List.map_toArray, List.map_cons, List.map_nil]); first | done | rfl | (simp only [List.length_drop, List.length_take]; rfl)) :
  if Region.wanted oi (yielded ops a.tmps) = true then Oper.wp P oi a w K Q else K (a.put N undef) w := Qm9 hf hname hb args hw hN hop hargs h
theorem on_ (i : Nat) (N : Option Tmp) (m : Nat) (hT : Qan (Qcp md ops = T))
  (h : ∀ K : Act → World → Prop, Shut (∀ a' w', S w' → (S w' → Qai P md ops Q S ds fuel (bts ops.size m) a' w') → K a' w') → if Region.wanted oi (yielded ops a.tmps) = true then Oper.wp P oi a w K Q else K (a.put N undef) w)
  (hi : ops[i]? = some oi := by exact rfl) (hN : oi.dst = N := by exact rfl) (hc : (Qgb T.2 l.toList == [i] && l.toList.set i true == (bts ops.size m).toList) = true := by kernel_rfl) (hd : i ∉ ds := by decide) :
  Qai P md ops Q S ds (fuel + 1) l a w := Qjg _ hi hN (Qe0 hT.out hc) hd h
theorem pn_ (i : Nat) (N : Option Tmp) (m : Nat) (hT : Qan (Qcp md ops = T))
  (hi : ops[i]? = some oi := by exact rfl) (hN : oi.dst = N := by exact rfl) (hc : anyT T l.toList (bts ops.size m).toList i = true := by kernel_rfl) (hQ : ∀ c a w, Q (.panic c) (a.put oi.dst undef) w → Q (.panic c) a w := by exact fun _ _ _ h => h)
  (hw : Region.wanted oi (yielded ops a.tmps) = false := by rfl)
  (ha : a.put N undef = a' := by simp only [Act.put, List.setIfInBounds_toArray, List.set_cons_zero, List.set_cons_succ, Qay, Qa3]; rfl)
  (h : Qai P md ops Q S ds fuel (bts ops.size m) a' w) : Qai P md ops Q S ds (fuel + 1) l a w :=
 Qjd _ hi hN (Qp6 hT.out hc) hQ (Or.inr ⟨hw, rfl⟩) ha h
end
end Go.Proofs.YtopijobdblfhoaaGreatW.PrintWords
end
