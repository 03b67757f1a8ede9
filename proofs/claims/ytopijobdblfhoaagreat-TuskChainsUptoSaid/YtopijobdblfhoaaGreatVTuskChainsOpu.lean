import Derived.Test.YtopijobdblfhoaaGreatVTuskChainsWWords
import Derived.Deep.Slices
import Derived.SizedLaws
import Derived.WideShapes
import Derived.Test.YtopijobdblfhoaaGreatRows
section
/- Trimmed by a program. By an AI agent. -/
namespace Go.Proofs.YtopijobdblfhoaaGreat.Opn
open Go.RowKit Go.ChangeShapes Go.WideShapes Go.Deep Go.Proofs.YtopijobdblfhoaaGreatW.PrintWords

structure Opn {α : Type} (P : Program) (t : TypeId) (K : Kd α) (G : α → Prop) : Prop where
 size : P.cellsOf t = K.sz
 go : ∀ {H : Type} {enc : TypeId × Value → H} {w : World} {base : Nat} {sp : Nat → Bool} {hd : Bool} {fuel : Nat} {cs : List Value} {d : DataW H} {ps : List MemPlace},
  DataW.trod enc P w base sp hd fuel t cs = some (d, ps) → (∀ n ∈ d.weights P t, n ≤ reachBytes) → ∃ x, K.K w x cs ∧ G x

theorem Opn.bool {P : Program} {t : TypeId} (ht : P.underlying t = some .bool) (hs : P.cellsOf t = 1) : Opn P t Kd.bool (fun _ => True) :=
 ⟨hs, fun h _ => by
  obtain ⟨b, rfl, _⟩ := DataW.trod_bool ht h
  exact ⟨b, rfl, trivial⟩⟩
theorem Qc2 {H : Type} {P : Program} {e : TypeId} : ∀ {l : List (DataW H)} {d : DataW H}, d ∈ l → ∀ n ∈ d.weights P e, n ∈ DataW.weightsAll P e l
 | d0 :: l, d, h, n, hn => by
  simp only [DataW.weightsAll, List.mem_append]
  rcases List.mem_cons.1 h with rfl | h
  ·
   exact .inl hn
  ·
   exact .inr (Qc2 h n hn)
theorem add_add (a : Addr) (m i : Nat) : (a.add m).add i = a.add (m + i) := by
 unfold Addr.add
 by_cases hm : m = 0
 ·
  subst hm; simp
 ·
  by_cases hi : i = 0
  ·
   subst hi; simp
  ·
   simp [hm, hi, Nat.add_assoc]

def InSeq {H : Type} (enc : TypeId × Value → H) (P : Program) (w : World) (base : Nat) (sp : Nat → Bool) (hd : Bool) (n : Nat) : List TypeId → List Value → List (DataW H) → Prop
 | [], cs, ds => cs = [] ∧ ds = []
 | t :: ts, cs, ds => ∃ d p ds', DataW.trod enc P w base sp hd n t (cs.take (P.cellsOf t)) = some (d, p) ∧ ds = d :: ds' ∧ InSeq enc P w base sp hd n ts (cs.drop (P.cellsOf t)) ds'
def Qel (P : Program) : List Field → Nat → Bool
 | [], _ => true
 | f :: l, o => f.offset == o && Qel P l (o + P.cellsOf f.type)
def total (P : Program) : List Field → Nat
 | [] => 0
 | f :: l => P.cellsOf f.type + total P l
theorem Qnu {H : Type} {enc : TypeId × Value → H} {P : Program} {w : World} {base : Nat} {sp : Nat → Bool} {hd : Bool} {n : Nat} {cs : List Value} :
  ∀ (l : List Field) (o : Nat) (xs : List (DataW H × List MemPlace)), Qel P l o = true → xs.length = l.length → cs.length = o + total P l →
   (∀ (i : Nat) (f : Field), l[i]? = some f → DataW.trod enc P w base sp hd n f.type ((cs.drop f.offset).take (P.cellsOf f.type)) = xs[i]?) →
   InSeq enc P w base sp hd n (l.map (·.type)) (cs.drop o) (xs.map (·.1)) := by
 intro l
 induction l with
 | nil =>
  intro o xs _ hx hl _
  cases xs with
  | nil => simp only [total] at hl; exact ⟨List.drop_eq_nil_of_le (by omega), rfl⟩
  | cons x xs => simp at hx
 | cons f l ih =>
  intro o xs hok hx hl h; simp only [Qel, Bool.and_eq_true, beq_iff_eq] at hok; obtain ⟨ho, hok⟩ := hok
  cases xs with
  | nil => simp at hx
  | cons x xs =>
   have h0 := h 0 f rfl; rw [ho] at h0; simp only [total] at hl; refine ⟨x.1, x.2, xs.map (·.1), by simpa using h0, rfl, ?_⟩
   have := ih (o + P.cellsOf f.type) xs hok (by simpa using hx) (by omega) (fun i g hg => by
    have := h (i + 1) g (by simpa using hg); simpa using this)
   rw [List.drop_drop]; exact this
section
variable {H : Type} {enc : TypeId × Value → H} {P : Program} {W : World} {base b0 : Nat} {r : Reach} {sp : Nat → Bool} {hd : Bool} {t : TypeId} {v : Value} {d : DataW H} {ps : List MemPlace} {ts : List TypeId} {ds : List (DataW H)}
theorem sized (hsz : (DataW.weightsEach P ts ds).all (· ≤ reachBytes) = true) {j : Nat} (ht : ts[j]? = some t) (hdj : ds[j]? = some d) : ∀ n ∈ d.weights P t, n ≤ reachBytes := fun n hn => by
 have := List.all_eq_true.1 hsz _ (DataW.weights_mem_each ht hdj n hn)
 simpa using this
theorem lt_of_trod (h : DataW.Trod enc P W 0 sp hd t v d ps) : ∀ x ∈ ps, x.block < W.heap.size := by
 obtain ⟨m, hm⟩ := h; exact DataW.trod_lt m _ _ _ hm
end
end Go.Proofs.YtopijobdblfhoaaGreat.Opn
end
section
/- Trimmed by a program. By an AI agent. -/
namespace Go.Proofs.YtopijobdblfhoaaGreat.Opn
open Go.RowKit Go.ChangeShapes Go.WideShapes Go.Deep Go.Proofs.YtopijobdblfhoaaGreatW.PrintWords

structure Opu {α : Type} (P : Program) (t : TypeId) (K : Kd α) (G : α → Prop) (bl : α → Nat) : Prop where
 size : P.cellsOf t = K.sz
 go : ∀ {H : Type} {enc : TypeId × Value → H} {w : World} {base : Nat} {sp : Nat → Bool} {hd : Bool} {fuel : Nat} {cs : List Value} {d : DataW H} {ps : List MemPlace},
  DataW.trod enc P w base sp hd fuel t cs = some (d, ps) → (∀ n ∈ d.weights P t, n ≤ reachBytes) → ∃ x, K.K w x cs ∧ G x ∧ bl x ≤ Rows.uptoBulk d

theorem Opu.int {P : Program} {t : TypeId} {k : IntKind} (ht : P.underlying t = some (.int k)) (hs : P.cellsOf t = 1) : Opu P t (Kd.int k) (fun n => (Lit.int k n).wf = true) (fun _ => 1) :=
 ⟨hs, fun h _ => by
  obtain ⟨n, rfl, hx, hw⟩ := DataW.trod_int ht h; obtain ⟨rfl, _⟩ := Prod.mk.inj hx
  exact ⟨n, rfl, hw, by simp [Rows.uptoBulk]⟩⟩
theorem Opu.bool {P : Program} {t : TypeId} (ht : P.underlying t = some .bool) (hs : P.cellsOf t = 1) : Opu P t Kd.bool (fun _ => True) (fun _ => 1) :=
 ⟨hs, fun h _ => by
  obtain ⟨b, rfl, hx⟩ := DataW.trod_bool ht h; obtain ⟨rfl, _⟩ := Prod.mk.inj hx
  exact ⟨b, rfl, trivial, by simp [Rows.uptoBulk]⟩⟩
theorem Opu.string {P : Program} {t : TypeId} (ht : P.underlying t = some .string) (hs : P.cellsOf t = 1) : Opu P t Kd.string (fun s => s.size ≤ 140737488351232) (fun s => s.size + 1) :=
 ⟨hs, fun h hw => by
  obtain ⟨s, rfl, hx, _⟩ := DataW.trod_string ht h; obtain ⟨rfl, _⟩ := Prod.mk.inj hx; refine ⟨s, rfl, ?_, ?_⟩
  ·
   have := hw s.data.toList.length (by simp [DataW.weights])
   simpa [reachBytes] using this
  ·
   have : s.data.toList.length = s.size := by rw [Array.length_toList]; rfl
   simp only [Rows.uptoBulk]
   omega⟩
theorem Qe8 {H : Type} {α : Type} (D : Nat → DataW H) (X : Nat → α) (bl : α → Nat) : ∀ l : List Nat, (∀ i ∈ l, bl (X i) ≤ Rows.uptoBulk (D i)) → ((l.map X).map bl).sum ≤ Rows.uptoBulkAll (l.map D)
 | [], _ => by simp
 | i :: l, h => by
  simp only [List.map_cons, List.sum_cons, Rows.uptoBulkAll]; have h1 := h i (by simp); have h2 := Qe8 D X bl l (fun j hj => h j (List.mem_cons_of_mem _ hj)); omega
theorem Opu.slice {α : Type} [Inhabited α] {P : Program} {t e : TypeId} {K : Kd α} {G : α → Prop} {bl : α → Nat} {bytes : Nat} (ht : P.underlying t = some (.slice e)) (hs : P.cellsOf t = 1) (hb : P.bytesOf e = bytes) (he : Opu P e K G bl) :
  Opu P t (Kd.slice e K) (fun xs => xs.length * bytes ≤ 140737488351232 ∧ ∀ x ∈ xs, G x) (fun xs => (xs.map bl).sum + 1) :=
 ⟨hs, fun {H enc w base sp hd fuel cs d ps} h hw => by
  rcases open_slice ht h with ⟨rfl, hx⟩ | ⟨a, len, cap, m, n, D, Pl, rfl, _, hl, hm, hmm, hx, hel⟩
  ·
   obtain ⟨rfl, _⟩ := Prod.mk.inj hx; exact ⟨[], ⟨none, 0, rfl, Nat.le_refl _, Kd.C_nil K w⟩, by simp, by simp [Rows.uptoBulk]⟩
  ·
   obtain ⟨hx, _⟩ := Prod.mk.inj hx; subst hx; have hlm : len ≤ m := by rw [hmm]; split <;> omega
   have hwt : ∀ i, i < len → ∀ n ∈ (D i).weights P e, n ≤ reachBytes := fun i hi n hn => hw n (by
    simp only [DataW.weights, ht, List.mem_cons, List.mem_append]
    exact .inr (.inl (Qc2 (List.mem_map.2 ⟨i, List.mem_range.2 hi, rfl⟩) n hn)))
   obtain ⟨X, hX⟩ := choose_lt (α := α) (n := len) (p := fun i x => ∃ cs', w.cells? base (a.add (i * P.cellsOf e)) (P.cellsOf e) = some cs' ∧ K.K w x cs' ∧ G x ∧ bl x ≤ Rows.uptoBulk (D i)) (fun i hi => by
    obtain ⟨cs', h1, h2⟩ := hel i (by omega); obtain ⟨x, h3, h4, h5⟩ := he.go h2 (hwt i hi)
    exact ⟨x, cs', h1, h3, h4, h5⟩)
   refine ⟨(List.range len).map X, ⟨some a, cap, by simp, by simpa using hl, by simp, by simp [maxLen] at hm ⊢; omega, fun _ => ⟨a, rfl, ?_⟩⟩, ⟨?_, ?_⟩, ?_⟩
   ·
    intro j p hp
    have hj : j < len := by
     have := (List.getElem?_eq_some_iff.1 hp).1; simpa using this
    obtain ⟨cs', h1, h3, _⟩ := hX j hj
    have hpj : p = X j := by
     rw [List.getElem?_map, List.getElem?_range hj] at hp; exact (Option.some.inj hp).symm
    subst hpj; obtain ⟨_, hlen, hcell⟩ := World.cells?_some h1; refine ⟨cs', K.K_len h3, h3, fun i u hu => ?_⟩
    have hi : i < P.cellsOf e := by
     have := (List.getElem?_eq_some_iff.1 hu).1; omega
    have hc := hcell i hi; rw [add_add, he.size] at hc; exact hc.trans hu
   ·
    have := hw ((((List.range len).map D).length + ((List.range (m - len)).map fun j => D (len + j)).length) * P.bytesOf e) (by simp [DataW.weights, ht]); rw [hb] at this; simp only [List.length_map, List.length_range] at this ⊢; have h2 : len * bytes ≤ (len + (m - len)) * bytes := Nat.mul_le_mul_right _ (by omega); have h3 : reachBytes = 140737488351232 := rfl; omega
   ·
    intro x hx; obtain ⟨i, hi, rfl⟩ := List.mem_map.1 hx; exact (hX i (List.mem_range.1 hi)).choose_spec.2.2.1
   ·
    have := Qe8 D X bl (List.range len) (fun i hi => (hX i (List.mem_range.1 hi)).choose_spec.2.2.2); simp only [Rows.uptoBulk]
    omega⟩

structure Squ {α : Type} (P : Program) (ts : List TypeId) (K : Kd α) (G : α → Prop) (bl : α → Nat) : Prop where
 go : ∀ {H : Type} {enc : TypeId × Value → H} {w : World} {base : Nat} {sp : Nat → Bool} {hd : Bool} {n : Nat} {cs : List Value} {ds : List (DataW H)},
  InSeq enc P w base sp hd n ts cs ds → (∀ n ∈ DataW.weightsEach P ts ds, n ≤ reachBytes) → ∃ x, K.K w x cs ∧ G x ∧ bl x ≤ Rows.uptoBulkAll ds
theorem Squ.one {α : Type} {P : Program} {t : TypeId} {K : Kd α} {G : α → Prop} {bl : α → Nat} (h : Opu P t K G bl) : Squ P [t] K G bl :=
 ⟨fun hs hw => by
  obtain ⟨d, p, ds', h1, rfl, h2, rfl⟩ := hs; obtain ⟨x, hk, hg, hb⟩ := h.go h1 (fun n hn => hw n (by simp [DataW.weightsEach, hn])); refine ⟨x, ?_, hg, by simpa [Rows.uptoBulkAll] using hb⟩
  rename_i cs
  have : cs = cs.take (P.cellsOf t) := by
   have := List.take_append_drop (P.cellsOf t) cs; rw [h2, List.append_nil] at this; exact this.symm
  rw [this]; exact hk⟩
theorem Squ.cons {α β : Type} {P : Program} {t : TypeId} {ts : List TypeId} {K : Kd α} {G : α → Prop} {bl : α → Nat} {K2 : Kd β} {G2 : β → Prop} {bl2 : β → Nat} (h : Opu P t K G bl) (h2 : Squ P ts K2 G2 bl2) : Squ P (t :: ts) (Kd.pair K K2) (fun x => G x.1 ∧ G2 x.2) (fun x => bl x.1 + bl2 x.2) :=
 ⟨fun hs hw => by
  obtain ⟨d, p, ds', h1, rfl, h3⟩ := hs; obtain ⟨x, hk, hg, hb⟩ := h.go h1 (fun n hn => hw n (by simp [DataW.weightsEach, hn])); obtain ⟨y, hk2, hg2, hb2⟩ := h2.go h3 (fun n hn => hw n (by simp [DataW.weightsEach, hn]))
  exact ⟨(x, y), ⟨_, _, (List.take_append_drop _ _).symm, hk, hk2⟩, ⟨hg, hg2⟩, by simp only [Rows.uptoBulkAll]; omega⟩⟩
theorem Opu.struct {α β : Type} {P : Program} {t : TypeId} {fs : Array Field} {ts : List TypeId} {K : Kd α} {G : α → Prop} {bl : α → Nat} (ht : P.underlying t = some (.struct fs)) (hts : fs.toList.map (·.type) = ts) (hok : Qel P fs.toList 0 = true)
  (htot : total P fs.toList = P.cellsOf t) (hsz : P.cellsOf t = K.sz) (hseq : Squ P ts K G bl) (f : β → α) (inv : α → β) (hinv : ∀ a, f (inv a) = a) : Opu P t (Kd.iso K f) (fun b => G (f b)) (fun b => bl (f b) + 1) :=
 ⟨hsz, fun h hw => by
  obtain ⟨xs, n, _, hx, hl, hlen, hf⟩ := DataW.trod_struct ht h; obtain ⟨hx, _⟩ := Prod.mk.inj hx; subst hx; have hs := Qnu fs.toList 0 xs hok (by simpa using hlen) (by omega) (fun i g hg => hf i g (by simpa using hg)); rw [List.drop_zero, hts] at hs; obtain ⟨x, hk, hg, hb⟩ := hseq.go hs (fun n hn => hw n (by simp only [DataW.weights, ht, hts]; exact hn)); refine ⟨inv x, ?_, ?_, ?_⟩
  ·
   show K.K _ (f (inv x)) _; rw [hinv]; exact hk
  ·
   show G (f (inv x)); rw [hinv]; exact hg
  ·
   show bl (f (inv x)) + 1 ≤ _
   rw [hinv]; simp only [Rows.uptoBulk]; omega⟩
theorem Opu.weaken {α : Type} {P : Program} {t : TypeId} {K : Kd α} {G G' : α → Prop} {bl bl' : α → Nat} (h : Opu P t K G bl) (hg : ∀ x, G x → G' x) (hb : ∀ x, bl' x ≤ bl x) : Opu P t K G' bl' :=
 ⟨h.size, fun a b => by obtain ⟨x, h1, h2, h3⟩ := h.go a b; exact ⟨x, h1, hg x h2, Nat.le_trans (hb x) h3⟩⟩

section
variable {H : Type} {enc : TypeId × Value → H} {P : Program} {W : World} {base b0 : Nat} {r : Reach} {sp : Nat → Bool} {hd : Bool} {t : TypeId} {v : Value} {d : DataW H} {ps : List MemPlace}
theorem paramu_struct {α : Type} {K : Kd α} {G : α → Prop} {bl : α → Nat} {fs : Array Field} (ht : P.underlying t = some (.struct fs)) (O : Opu P t K G bl) (hv : Value.okWide P W r b0 t v) (h : DataW.Trod enc P W base sp hd t v d ps) (hw : ∀ n ∈ d.weights P t, n ≤ reachBytes) :
  ∃ (cs : List Value) (x : α), v = .agg cs.toArray ∧ K.K W x cs ∧ G x ∧ bl x ≤ Rows.uptoBulk d := by
 obtain ⟨cs, rfl, _⟩ := okWide_struct ht hv; obtain ⟨fuel, hf⟩ := h; obtain ⟨x, hk, hg, hb⟩ := O.go hf hw; exact ⟨cs.toList, x, by simp, by simpa [Value.cells] using hk, hg, hb⟩
theorem small_le {l : List (DataW H)} (hk : Rows.uptoSmall H l = true) : Rows.uptoBulkAll l ≤ 1048576 := of_decide_eq_true hk
end
end Go.Proofs.YtopijobdblfhoaaGreat.Opn
end
