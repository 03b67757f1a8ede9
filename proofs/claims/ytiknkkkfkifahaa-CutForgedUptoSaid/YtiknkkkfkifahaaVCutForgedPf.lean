import Derived.Test.YtiknkkkfkifahaaVCutForgedPe
/- What this claim names of the words that its proofs lean on: gathered out of them by a program of this session (shake.py). By an AI agent. -/
/-
  The facts of a world as instances, at a world that stands a few plain steps behind it. By an AI agent.
-/
namespace Go.Proofs.YtiknkkkfkifahaaW.PrintWords
open Go.RowKit
/-- A fact that instances find. -/
class Asc (p : Prop) : Prop where mk :: (out : p)
theorem am_ {p : Prop} (x : p) : Asc p := ⟨x⟩
theorem am1 {p0 G : Prop} (x0 : p0) (f : Asc p0 → G) : G := f ⟨x0⟩
theorem am3 {p0 p1 p2 G : Prop} (x0 : p0) (x1 : p1) (x2 : p2) (f : Asc p0 → Asc p1 → Asc p2 → G) : G := f ⟨x0⟩ ⟨x1⟩ ⟨x2⟩
theorem am6 {p0 p1 p2 p3 p4 p5 G : Prop} (x0 : p0) (x1 : p1) (x2 : p2) (x3 : p3) (x4 : p4) (x5 : p5) (f : Asc p0 → Asc p1 → Asc p2 → Asc p3 → Asc p4 → Asc p5 → G) : G := f ⟨x0⟩ ⟨x1⟩ ⟨x2⟩ ⟨x3⟩ ⟨x4⟩ ⟨x5⟩
theorem am7 {p0 p1 p2 p3 p4 p5 p6 G : Prop} (x0 : p0) (x1 : p1) (x2 : p2) (x3 : p3) (x4 : p4) (x5 : p5) (x6 : p6) (f : Asc p0 → Asc p1 → Asc p2 → Asc p3 → Asc p4 → Asc p5 → Asc p6 → G) : G := f ⟨x0⟩ ⟨x1⟩ ⟨x2⟩ ⟨x3⟩ ⟨x4⟩ ⟨x5⟩ ⟨x6⟩
theorem am8 {p0 p1 p2 p3 p4 p5 p6 p7 G : Prop} (x0 : p0) (x1 : p1) (x2 : p2) (x3 : p3) (x4 : p4) (x5 : p5) (x6 : p6) (x7 : p7) (f : Asc p0 → Asc p1 → Asc p2 → Asc p3 → Asc p4 → Asc p5 → Asc p6 → Asc p7 → G) : G := f ⟨x0⟩ ⟨x1⟩ ⟨x2⟩ ⟨x3⟩ ⟨x4⟩ ⟨x5⟩ ⟨x6⟩ ⟨x7⟩
theorem am9 {p0 p1 p2 p3 p4 p5 p6 p7 p8 G : Prop} (x0 : p0) (x1 : p1) (x2 : p2) (x3 : p3) (x4 : p4) (x5 : p5) (x6 : p6) (x7 : p7) (x8 : p8) (f : Asc p0 → Asc p1 → Asc p2 → Asc p3 → Asc p4 → Asc p5 → Asc p6 → Asc p7 → Asc p8 → G) : G := f ⟨x0⟩ ⟨x1⟩ ⟨x2⟩ ⟨x3⟩ ⟨x4⟩ ⟨x5⟩ ⟨x6⟩ ⟨x7⟩ ⟨x8⟩
theorem am10 {p0 p1 p2 p3 p4 p5 p6 p7 p8 p9 G : Prop} (x0 : p0) (x1 : p1) (x2 : p2) (x3 : p3) (x4 : p4) (x5 : p5) (x6 : p6) (x7 : p7) (x8 : p8) (x9 : p9) (f : Asc p0 → Asc p1 → Asc p2 → Asc p3 → Asc p4 → Asc p5 → Asc p6 → Asc p7 → Asc p8 → Asc p9 → G) : G := f ⟨x0⟩ ⟨x1⟩ ⟨x2⟩ ⟨x3⟩ ⟨x4⟩ ⟨x5⟩ ⟨x6⟩ ⟨x7⟩ ⟨x8⟩ ⟨x9⟩
theorem am11 {p0 p1 p2 p3 p4 p5 p6 p7 p8 p9 p10 G : Prop} (x0 : p0) (x1 : p1) (x2 : p2) (x3 : p3) (x4 : p4) (x5 : p5) (x6 : p6) (x7 : p7) (x8 : p8) (x9 : p9) (x10 : p10) (f : Asc p0 → Asc p1 → Asc p2 → Asc p3 → Asc p4 → Asc p5 → Asc p6 → Asc p7 → Asc p8 → Asc p9 → Asc p10 → G) : G := f ⟨x0⟩ ⟨x1⟩ ⟨x2⟩ ⟨x3⟩ ⟨x4⟩ ⟨x5⟩ ⟨x6⟩ ⟨x7⟩ ⟨x8⟩ ⟨x9⟩ ⟨x10⟩
theorem am15 {p0 p1 p2 p3 p4 p5 p6 p7 p8 p9 p10 p11 p12 p13 p14 G : Prop} (x0 : p0) (x1 : p1) (x2 : p2) (x3 : p3) (x4 : p4) (x5 : p5) (x6 : p6) (x7 : p7) (x8 : p8) (x9 : p9) (x10 : p10) (x11 : p11) (x12 : p12) (x13 : p13) (x14 : p14) (f : Asc p0 → Asc p1 → Asc p2 → Asc p3 → Asc p4 → Asc p5 → Asc p6 → Asc p7 → Asc p8 → Asc p9 → Asc p10 → Asc p11 → Asc p12 → Asc p13 → Asc p14 → G) : G := f ⟨x0⟩ ⟨x1⟩ ⟨x2⟩ ⟨x3⟩ ⟨x4⟩ ⟨x5⟩ ⟨x6⟩ ⟨x7⟩ ⟨x8⟩ ⟨x9⟩ ⟨x10⟩ ⟨x11⟩ ⟨x12⟩ ⟨x13⟩ ⟨x14⟩
section
variable {w W W' W2 : World}
/-- What holds of W from w on holds of W', some plain steps behind it. -/
class PeelS (w W W' : World) : Prop where
  out : Below w.heap.size w W → Below w.heap.size w W'
instance PeelS.refl (w W : World) : PeelS w W W := ⟨fun h => h⟩
instance PeelS.alloc [h : PeelS w W W'] (o : Obj) : PeelS w W (W'.alloc o) := ⟨fun x => below_alloc (h.out x) o⟩
instance PeelS.drewN [h : PeelS w W W'] (n : Nat) : PeelS w W (W'.drewN n) := ⟨fun x => pw_below_drewN (h.out x) n⟩
instance PeelS.drew [h : PeelS w W W'] : PeelS w W W'.drew := ⟨fun x => below_drew1 (h.out x)⟩
instance PeelS.set {g j : Nat} {v : Value} [h : PeelS w W W'] [hg : Asc (w.heap.size ≤ g)] : PeelS w W (W'.setCell ⟨g, j, none⟩ v) := ⟨fun x => below_set (h.out x) hg.out⟩
theorem bh (x : Asc (Below w.heap.size w W)) [h : PeelS w W W'] : Below w.heap.size w W' := h.out x.out
variable {g : Nat} {o : Obj}
theorem bBl (x : Asc (W.heap[g]? = some o)) [Peel W W'] (hb : Below W'.heap.size W' W2) : W2.heap[g]? = some o := blk_below (pB x.out) hb
theorem bGr {row : Option Nat} (x : Asc (W.heap[g]? = some o)) [Peel W W'] (hg : W'.grownBy W2 row) (hne : some g ≠ row) : W2.heap[g]? = some o := blk_grown (pB x.out) hg hne
theorem bFr (x : Asc (W.heap[g]? = some o)) [Peel W W'] (k : Nat) (hk : W'.heap.size ≤ k) : k ≠ g := Kd.freshB (pB x.out) k hk
theorem bLt (x : Asc (W.heap[g]? = some o)) [Peel W W'] : g < W'.heap.size := blk_lt (pB x.out)
end
end Go.Proofs.YtiknkkkfkifahaaW.PrintWords

