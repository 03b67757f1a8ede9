import Derived.Test.YtopijobdblfhoaaGreatVTuskChainsDw
import Derived.Maps.OwnSet
import Derived.Maps.OwnIn
import Derived.StringKeys
import Derived.BigGuardIn
set_option linter.unusedVariables false
set_option linter.unusedSimpArgs false
/- Trimmed by a program. By an AI agent. -/
namespace Go.Proofs.YtopijobdblfhoaaGreat.Si
open Go.RowKit Go.Lib Go.Proofs.YtopijobdblfhoaaGreatW.PrintWords Go.Proofs.YtopijobdblfhoaaGreatW.PrintLast Go.Proofs.YtopijobdblfhoaaGreatW.PrintMore
open Go.Maps (Keyed IsMap)
open Go.ChangeMaps
attribute [local go_sem] Oper.semAt_some
theorem down_in (n : Nat) (A : Option Addr) (c rn : Nat) (nn low fr : Int) (w : World) :
  CallsIn Fence.wide n Tryz.prog 83 #[.agg #[.int .i64 nn, .int .i64 low, .slice A rn c], .int .i64 fr] w fun e w' => e = .returned (.func (.func 102) #[] #[.pointer (some ⟨w.heap.size + 1, 0, none⟩), .pointer (some ⟨w.heap.size, 0, none⟩)]) ∧ w' = (w.alloc (.cells #[.int .i64 nn, .int .i64 low, .slice A rn c] 24)).alloc (.cells #[.int .i64 fr] 3) := by
 refine callsIn_of_wp Tryz.func83 rfl trivial ?_ rfl; simp only [Tryz.ntmps83, List.size_toArray, List.length_cons, List.length_nil, Nat.reduceAdd, Nat.reduceSub, Array.replicate_succ, Array.replicate_zero, List.push_toArray, List.append_toArray, List.nil_append, List.cons_append]
 gi_wp2
 go_ret; exact ⟨rfl, rfl⟩
instance baLawful : LawfulBEq ByteArray where
 eq_of_beq {a b} h := by
  have h2 : (a.data == b.data) = true := h
  rcases a with ⟨a⟩
  rcases b with ⟨b⟩
  exact congrArg ByteArray.mk (eq_of_beq h2)
 rfl {a} := by
  show (a.data == a.data) = true; exact beq_self_eq_true _
def look : List (ByteArray × Int) → ByteArray → Option Int
 | [], _ => none
 | (k, v) :: r, s => if k = s then some v else look r s
def Qi2 (s : ByteArray) : Lit := .string s.data.toList
theorem Qeq {s t : ByteArray} (h : Qi2 s = Qi2 t) : s = t := by
 unfold Qi2 at h
 injection h with h
 rcases s with ⟨⟨s⟩⟩
 rcases t with ⟨⟨t⟩⟩
 simp at h; rw [h]
theorem Qch : Keyed Tryz.prog 9 := Go.Maps.string_keyed Tryz.underlying9
theorem Qcl {s : ByteArray} (h : s.size ≤ maxLen) : keyOf Tryz.prog 9 (.string s) = some (Qi2 s) := Go.WideMaps.keyOf_string_mk Tryz.underlying9 h
def Qc6 (D : DataW Unit) (inn : List (ByteArray × Int)) : Prop := ∀ s : ByteArray, Maps.has D (Qi2 s) = (look inn s).isSome ∧ D.atKey (Qi2 s) (.lit (.int .i64 0)) = .lit (.int .i64 ((look inn s).getD 0))
def Qba (D : DataW Unit) (want : List ByteArray) : Prop := ∀ s : ByteArray, D.atKey (Qi2 s) (.lit (.bool false)) = .lit (.bool (decide (s ∈ want)))
theorem Qgh (s : ByteArray) : WideAt.IsKeyLit (Qi2 s) := trivial
theorem Qc6.nil : Qc6 (.map []) [] := fun s => ⟨rfl, rfl⟩
theorem Qba.nil : Qba (.map []) [] := fun s => by simp [DataW.atKey]
theorem Qc6.put {D : DataW Unit} {inn : List (ByteArray × Int)} (h : Qc6 D inn) (hm : IsMap D) (k : ByteArray) (v : Int) : Qc6 (D.put (Qi2 k) (.lit (.int .i64 v))) ((k, v) :: inn) := fun s => by
 unfold look
 by_cases e : k = s
 ·
  subst e; rw [if_pos rfl]; exact ⟨Maps.has_put_same hm (Qgh _) _, Maps.atKey_put_same hm (Qgh _) _ _⟩
 ·
  rw [if_neg e, Maps.has_put_other (fun h => e (Qeq h).symm), Maps.atKey_put_other (fun h => e (Qeq h).symm)]; exact h s
theorem Qba.put {D : DataW Unit} {want : List ByteArray} (h : Qba D want) (hm : IsMap D) (k : ByteArray) : Qba (D.put (Qi2 k) (.lit (.bool true))) (k :: want) := fun s => by
 by_cases e : s = k
 ·
  subst e; rw [Maps.atKey_put_same hm (Qgh _)]; simp
 ·
  rw [Maps.atKey_put_other (fun h => e (Qeq h)), h s]; simp [e]
theorem Qba.del {D : DataW Unit} {want : List ByteArray} (h : Qba D want) (k : ByteArray) : Qba (D.del (Qi2 k)) (want.filter (fun y => decide (y ≠ k))) := fun s => by
 by_cases e : s = k
 ·
  subst e; rw [Maps.atKey_del_same]; simp
 ·
  rw [Maps.atKey_del_other (fun h => e (Qeq h)), h s]; simp [e]
def stepE (tD : ByteArray) (tR r : Int) (st : List (ByteArray × Int) × List ByteArray × List ByteArray) (x : DX) : List (ByteArray × Int) × List ByteArray × List ByteArray :=
 if x.d ∈ st.2.1 ∧ (r = tR → x.d = tD) then ((x.d, r) :: st.1, st.2.1.filter (fun y => decide (y ≠ x.d)), x.ps.reverse ++ st.2.2) else st
def roundE (tD : ByteArray) (tR : Int) (rnd : Int → List DX) (st : List (ByteArray × Int) × List ByteArray) (r : Int) : List (ByteArray × Int) × List ByteArray :=
 (((rnd r).foldl (stepE tD tR r) (st.1, st.2, [])).1, ((rnd r).foldl (stepE tD tR r) (st.1, st.2, [])).2.2)
def pastS (tD : ByteArray) (tR : Int) (rnd : Int → List DX) (rl : List Int) : List (ByteArray × Int) × List ByteArray := rl.foldl (roundE tD tR rnd) ([], [tD])
-- PAST LEMMAS
theorem Qbs {H : Type} {P : Program} {e : TypeId} (he : P.underlying e = some .bool) {v : Value} {z : DataW H × List MemPlace} (h : plainElem P e v = some z) : ∃ x, v = .bool x ∧ z = (.lit (.bool x), []) := by
 unfold plainElem at h; rw [he] at h; cases v <;> simp at h
 subst h; exact ⟨_, rfl, rfl⟩
theorem Qfc {H : Type} {P : Program} {k : TypeId} {w : World} {b n : Nat} {D : DataW H} {t e : TypeId} (h : w.ownsMap P k (plainElem P e) b n D) (K : Keyed P k) (ht : P.underlying t = some (.map k e)) (he : P.underlying e = some .bool) (hz : (zeroValue e).run P w = .ok (.bool false) w)
  {key : Value} {kl : Lit} (hkey : keyOf P k key = some kl) : ∃ x, (Instr.lookup t (.map (some b)) key false).run P w = .ok (.bool x) w ∧ D.atKey kl (.lit (.bool false)) = .lit (.bool x) := by
 obtain ⟨v, ps, hrun, hv⟩ := h.lookup K ht hz (plainElem_bool he false) hkey; obtain ⟨x, rfl, hc⟩ := Qbs he hv; exact ⟨x, hrun, (Prod.mk.inj hc).1⟩
theorem Qfe (w : World) : (zeroValue 4).run Tryz.prog w = .ok (.bool false) w := by kernel_rfl
def NM (W W' : World) : Prop := W.heap.size ≤ W'.heap.size ∧ ∀ (k : Nat) (o : Obj), W.heap[k]? = some o → (∀ es cl, o ≠ Obj.map es cl) → W'.heap[k]? = some o
theorem NM.trans {A B C : World} (h : NM A B) (k : NM B C) : NM A C := ⟨Nat.le_trans h.1 k.1, fun i o hi ho => k.2 i o (h.2 i o hi ho) ho⟩
theorem NM.alloc (W : World) (o : Obj) : NM W (W.alloc o) := ⟨by simp, fun k o' hk _ => (Below.heap_alloc W o k (Array.getElem?_eq_some_iff.1 hk).1).trans hk⟩
theorem NM.drewN (W : World) (m : Nat) : NM W (W.drewN m) := ⟨Nat.le_refl _, fun _ _ h _ => h⟩
theorem own_map {W : World} {P : Program} {k : TypeId} {R : Value → Option (DataW Unit × List MemPlace)} {b n : Nat} {D : DataW Unit} (h : W.ownsMap P k R b n D) : ∃ es cl, W.heap[b]? = some (Obj.map es cl) := by
 obtain ⟨es, cl, hb, _⟩ := h; exact ⟨es, cl, hb⟩
theorem NM.grown {W W' : World} {P : Program} {k : TypeId} {R : Value → Option (DataW Unit × List MemPlace)} {b n : Nat} {D : DataW Unit} (h : W.ownsMap P k R b n D) (hg : W.grownBy W' (some b)) : NM W W' := by
 obtain ⟨es, cl, hb⟩ := own_map h; refine ⟨hg.size, fun k o hk ho => (hg.block k (Array.getElem?_eq_some_iff.1 hk).1 (fun e => ?_)).trans hk⟩; cases e; rw [hb] at hk; exact ho es cl (Option.some.inj hk).symm
theorem NM.cell {W W' : World} (h : NM W W') {a : Addr} {v : Value} (hc : W.cell? a = some v) : W'.cell? a = some v := by
 unfold World.cell? at hc ⊢
 cases hb : W.heap[a.block]? with
 | none => rw [hb] at hc; cases hc
 | some o =>
  cases o with
  | cells c e fr => rw [h.2 _ _ hb (fun _ _ e => by cases e)]; rw [hb] at hc; exact hc
  | _ => rw [hb] at hc; cases hc
theorem NM.boxed {W W' : World} (h : NM W W') {B : Nat} {ty : TypeId} {v : Value} (hb : Boxed W B ty v) : Boxed W' B ty v := h.2 _ _ hb (fun _ _ e => by cases e)
theorem NM.blk {W W' : World} (h : NM W W') {k : Nat} {c : Array Value} {ty : TypeId} (hb : W.heap[k]? = some (.cells c ty (0, 0))) : W'.heap[k]? = some (.cells c ty (0, 0)) := h.2 _ _ hb (fun _ _ e => by cases e)
theorem NM.rowE {W W' : World} (h : NM W W') {A : Option Addr} {l : List ER} (hr : Rowentry W A l) : Rowentry W' A l := by
 intro i x hx; obtain ⟨ad, e, h0, h1, h2, h3, h4, h5, h6⟩ := hr i x hx; exact ⟨ad, e, h.cell h0, h.cell h1, h.cell h2, h.cell h3, h.cell h4, h.cell h5, h.cell h6⟩
theorem NM.rowS {W W' : World} (h : NM W W') {A : Option Addr} {l : List ByteArray} (hr : Qgc W A l) : Qgc W' A l := by
 intro i x hx; obtain ⟨ad, e, h0⟩ := hr i x hx; exact ⟨ad, e, h.cell h0⟩
theorem Qb9 {W : World} {l : Nat} {r r' : Loop} (hl : W.heap[l]? = some (.loop r)) {a : Addr} {v : Value} (hc : W.cell? a = some v) : (W.putObj l (.loop r')).cell? a = some v := by
 have hne : a.block ≠ l := fun e => by
  unfold World.cell? at hc; rw [e, hl] at hc; cases hc
 unfold World.cell? at hc ⊢; rw [World.putObj_heap_other hne]; exact hc
theorem put_rdy {rnd : Int → List DX} {x : YE} {W : World} {l : Nat} {r r' : Loop} (h : RdY rnd x W) (hl : W.heap[l]? = some (.loop r)) : RdY rnd x (W.putObj l (.loop r')) := by
 refine ⟨fun i y hy => ?_, h.2.imp (fun A l' hr i s hs => ?_)⟩
 ·
  obtain ⟨ad, e, h0, h1, h2, h3, h4, h5, h6⟩ := h.1 i y hy; exact ⟨ad, e, Qb9 hl h0, Qb9 hl h1, Qb9 hl h2, Qb9 hl h3, Qb9 hl h4, Qb9 hl h5, Qb9 hl h6⟩
 ·
  obtain ⟨ad, e, h0⟩ := hr i s hs; exact ⟨ad, e, Qb9 hl h0⟩
theorem Qdb {W W' : World} {P : Program} {k : TypeId} {R : Value → Option (DataW Unit × List MemPlace)} {b n : Nat} {D : DataW Unit} (h : W.ownsMap P k R b n D) (hb : Below W.heap.size W W') : W'.ownsMap P k R b n D := h.kept (Qfo hb none) (by simp)
theorem Qi7 {W : World} {P : Program} {k : TypeId} {R : Value → Option (DataW Unit × List MemPlace)} {b n l : Nat} {D : DataW Unit} (h : W.ownsMap P k R b n D) (hne : b ≠ l) (o : Obj) : (W.putObj l o).ownsMap P k R b n D := h.kept (grownBy_putObj' W l o) (fun e => hne (by injection e))
def Qfq (w : World) (t : ER) (rnd : Int → List DX) (M mi Bi Bw D : Nat) (pre : List YE) (W : World) : Prop := ∃ (mw nw ni : Nat) (Dw Di : DataW Unit),
 Boxed W Bi 88 (.map (some mi)) ∧ W.ownsMap Tryz.prog 9 (plainElem Tryz.prog 3) mi ni Di ∧ Qc6 Di (pastS t.d t.ro rnd (pre.map (·.r))).1 ∧ ni ≤ pre.length * M ∧
 Boxed W Bw 108 (.map (some mw)) ∧ W.ownsMap Tryz.prog 9 (plainElem Tryz.prog 4) mw nw Dw ∧ Qba Dw (pastS t.d t.ro rnd (pre.map (·.r))).2 ∧
 mi < mw ∧ mw ≠ D ∧ mw ≠ D + 1 ∧ W.heap[w.heap.size + 1]? = some (.cells #[.string t.d, .int .i64 t.au, .int .i64 t.ro, .slice t.A3 t.n3 t.c3, .slice t.A4 t.n4 t.c4, .int .i64 t.ea, .int .i64 t.eb] 32 (0, 0)) ∧ Below w.heap.size w W ∧ (∃ c1 t1, W.heap[Bw + 1]? = some (.cells c1 t1 (0, 0))) ∧ (∃ c2 t2, W.heap[Bw + 1 + 1]? = some (.cells c2 t2 (0, 0)))
theorem Qfq.below {w : World} {t : ER} {rnd : Int → List DX} {M mi Bi Bw D : Nat} {pre : List YE} {A B : World} (h : Qfq w t rnd M mi Bi Bw D pre A) (hb : Below A.heap.size A B) : Qfq w t rnd M mi Bi Bw D pre B := by
 obtain ⟨mw, nw, ni, Dw, Di, h1, h2, h3, h4, h5, h6, h7, h8, h9, h10, h11, h12, ⟨c1, t1, h13⟩, ⟨c2, t2, h14⟩⟩ := h; exact ⟨mw, nw, ni, Dw, Di, (hb.block _ h1.lt).trans h1, Qdb h2 hb, h3, h4, (hb.block _ h5.lt).trans h5, Qdb h6 hb, h7, h8, h9, h10, (hb.block _ (Array.getElem?_eq_some_iff.1 h11).1).trans h11, Qa0 h12 hb, ⟨c1, t1, (hb.block _ (Array.getElem?_eq_some_iff.1 h13).1).trans h13⟩, ⟨c2, t2, (hb.block _ (Array.getElem?_eq_some_iff.1 h14).1).trans h14⟩⟩
theorem Qfq.put {w : World} {t : ER} {rnd : Int → List DX} {M mi Bi Bw D : Nat} {pre : List YE} {W : World} {r r' : Loop} (h : Qfq w t rnd M mi Bi Bw D pre W) (hl : W.heap[D + 1]? = some (.loop r)) (hw : w.heap.size ≤ D) (hmi : mi ≤ D) : Qfq w t rnd M mi Bi Bw D pre (W.putObj (D + 1) (.loop r')) := by
 obtain ⟨mw, nw, ni, Dw, Di, h1, h2, h3, h4, h5, h6, h7, h8, h9, h10, h11, h12, ⟨c1, t1, h13⟩, ⟨c2, t2, h14⟩⟩ := h
 have ne : ∀ {k : Nat} {c : Array Value} {ty : TypeId}, W.heap[k]? = some (.cells c ty (0, 0)) → k ≠ D + 1 := fun h e => by
  rw [e, hl] at h; cases h
 exact ⟨mw, nw, ni, Dw, Di, (World.putObj_heap_other (ne h1)).trans h1, Qi7 h2 (by omega) _, h3, h4, (World.putObj_heap_other (ne h5)).trans h5, Qi7 h6 h10 _, h7, h8, h9, h10, (World.putObj_heap_other (ne h11)).trans h11,
  h12.trans (belowK_b (w := w) (Nat.le_refl _) W (D + 1) _ _ (by omega) hl rfl rfl), ⟨c1, t1, (World.putObj_heap_other (ne h13)).trans h13⟩, ⟨c2, t2, (World.putObj_heap_other (ne h14)).trans h14⟩⟩
theorem Qfg {a b : ByteArray} (h : a.toList = b.toList) : a = b := by
 have e : ∀ x : ByteArray, x.toList = x.data.toList := fun x => ByteArray.toList_eq x
 rw [e, e] at h
 rcases a with ⟨⟨a⟩⟩
 rcases b with ⟨⟨b⟩⟩
 simpa using h
theorem Qdd {α : Type} {l : List α} {j : Nat} {z : α} (h : l[j]? = some z) : l.take (j + 1) = l.take j ++ [z] := by
 rw [List.take_add_one, h]; rfl
theorem Qny (l : List DX) (j : Nat) : ((l.take j).map (fun x => x.ps.length)).sum ≤ (l.map (fun x => x.ps.length)).sum := by
 have h : l.map (fun x => x.ps.length) = (l.take j).map (fun x => x.ps.length) ++ (l.drop j).map (fun x => x.ps.length) := by rw [← List.map_append, List.take_append_drop]
 rw [h, List.sum_append]; omega
theorem step_no {tD : ByteArray} {tR r : Int} {st : List (ByteArray × Int) × List ByteArray × List ByteArray} {x : DX} (h : ¬ (x.d ∈ st.2.1 ∧ (r = tR → x.d = tD))) : stepE tD tR r st x = st := if_neg h
theorem step_yes {tD : ByteArray} {tR r : Int} {st : List (ByteArray × Int) × List ByteArray × List ByteArray} {x : DX} (h : x.d ∈ st.2.1 ∧ (r = tR → x.d = tD)) : stepE tD tR r st x = ((x.d, r) :: st.1, st.2.1.filter (fun y => decide (y ≠ x.d)), x.ps.reverse ++ st.2.2) := if_pos h
theorem wrap_succ {j : Nat} (h : j < 9223372036854775807) : wrap64 ((j : Int) + 1) = ((j + 1 : Nat) : Int) := by rw [Go.IntWalk.wrap64_in _ (by omega)]; omega
theorem Qle {n kk : Nat} (hlt : kk < n) : n - (RowKit.intOf (Value.int .i64 ((kk : Int) + 1))).toNat < n - (RowKit.intOf (Value.int .i64 (kk : Int))).toNat := by
 have e : ((kk : Int) + 1).toNat = kk + 1 := by omega
 rw [show RowKit.intOf (Value.int .i64 ((kk : Int) + 1)) = (kk : Int) + 1 from rfl, show RowKit.intOf (Value.int .i64 (kk : Int)) = (kk : Int) from rfl, e, Int.toNat_natCast]; omega
theorem Qk9 {n : Nat} {w A B : World} (h1 : Below n w A) (h2 : Below n w B) (hs : A.heap.size ≤ B.heap.size) : Below n A B := ⟨h2.os.trans h1.os.symm, h2.tape.trans h1.tape.symm, h2.output.trans h1.output.symm, hs, fun i hi => (h2.block i hi).trans (h1.block i hi).symm⟩
theorem cap2 {nx s s' l T C : Nat} (h1 : nx ≤ s) (h2 : s' = s + l) (h3 : s' ≤ T) (h4 : T < C) : nx + l < C := by omega
theorem cap_lem {a n M j l C : Nat} (hM : l ≤ M) (hj : j < l) (hN : a < n) (h : (n + 1) * M < C) : a * M + j < C := by
 have h3 : (a + 1) * M ≤ (n + 1) * M := Nat.mul_le_mul_right M (by omega); rw [Nat.add_mul, Nat.one_mul] at h3; omega
theorem Qp8 (n : Int) : RowKit.intOf (Value.int .i64 n) = n := rfl
theorem Qh9 {n kk : Nat} (hlt : kk < n) (hw : wrap64 ((kk : Int) + 1) = ((kk + 1 : Nat) : Int)) : n - (RowKit.intOf (Value.int .i64 (wrap64 ((kk : Int) + 1)))).toNat < n - (RowKit.intOf (Value.int .i64 (kk : Int))).toNat := by
 rw [Qp8, Qp8, hw, Int.toNat_natCast, Int.toNat_natCast]; exact Nat.sub_lt_sub_left hlt (Nat.lt_succ_self kk)
-- PAST LEMMAS END
set_option maxRecDepth 100000 in
set_option maxHeartbeats 4000000 in
theorem past_in (A : Option Addr) (c rn : Nat) (nn low : Int) (t : ER) (rnd : Int → List DX) (M T : Nat) (w : World) (ht : t.d.size ≤ maxLen)
  (hRd : ∀ (r : Int) (w1 : World), Below w.heap.size w w1 → Calls Tryz.prog 34 #[.agg #[.int .i64 nn, .int .i64 low, .slice A rn c], .int .i64 r] w1 fun e w' => ∃ A' c' rs', e = .returned (.slice A' (rs' : List ER).length c') ∧ Rowentry w' A' rs' ∧ PEs w' rs' (rnd r) ∧ Below w1.heap.size w1 w')
  (hsz : ∀ r, ∀ x ∈ rnd r, x.d.size ≤ maxLen ∧ ∀ p ∈ x.ps, p.size ≤ maxLen) (hwf : ∀ r, ∀ x ∈ rnd r, (Lit.int .i64 r).wf = true) (hM : ∀ r, (rnd r).length ≤ M) (hT : ∀ r, ((rnd r).map (fun x => x.ps.length)).sum ≤ T) (hT2 : T < 4611686018427387904)
  (m0 : Nat) (rl : List Int) (hx : downO rnd m0 t.ro = some rl) (hM2 : (rl.length + 1) * M < 4611686018427387904) :
  CallsIn Fence.wide 4 Tryz.prog 62 #[.agg #[.int .i64 nn, .int .i64 low, .slice A rn c], t.v] w fun e w' => ∃ mi ni D, e = .returned (.map (some mi)) ∧ w.heap.size ≤ mi ∧ w'.ownsMap Tryz.prog 9 (plainElem Tryz.prog 3) mi ni D ∧ Qc6 D (pastS t.d t.ro rnd rl).1 ∧ Below w.heap.size w w' := by
 have hmm := @run_makeMap Tryz.prog; unfold ER.v; have eF : Fence.wide.fn 83 := trivial; have HRd := Lib.hid hRd; have Hsz := Lib.hid hsz; have Hwf := Lib.hid hwf; have HM := Lib.hid hM; have HT := Lib.hid hT; have HT2 := Lib.hid hT2; have HM2 := Lib.hid hM2; clear hRd hsz hwf hM hT hT2 hM2
 have hWx : (((((w.alloc (.cells #[.int .i64 nn, .int .i64 low, .slice A rn c] 24)).alloc (.cells #[.string t.d, .int .i64 t.au, .int .i64 t.ro, .slice t.A3 t.n3 t.c3, .slice t.A4 t.n4 t.c4, .int .i64 t.ea, .int .i64 t.eb] 32)).alloc (.map #[] 0)).alloc (.cells #[.map (some (w.heap.size + 1 + 1))] 88)).alloc (.map #[] 0)).ownsMap Tryz.prog 9 (plainElem Tryz.prog 4) (w.heap.size + 1 + 1 + 1 + 1) 0 (.map [] : DataW Unit) := by
  have := World.ownsMap_made (H := Unit) ((((w.alloc (.cells #[.int .i64 nn, .int .i64 low, .slice A rn c] 24)).alloc (.cells #[.string t.d, .int .i64 t.au, .int .i64 t.ro, .slice t.A3 t.n3 t.c3, .slice t.A4 t.n4 t.c4, .int .i64 t.ea, .int .i64 t.eb] 32)).alloc (.map #[] 0)).alloc (.cells #[.map (some (w.heap.size + 1 + 1))] 88)) Tryz.prog 9 (plainElem Tryz.prog 4)
  simpa using this
 obtain ⟨wi, hrun, hownW, hgrow⟩ := hWx.update Qch Tryz.underlying108 (by unfold maxLen; omega) (val := .bool true) (Qcl ht) (plainElem_bool Tryz.underlying4 true)
 have hBel : Below w.heap.size w wi := by
  refine Below.grown ?_ hgrow ?_ ?_
  ·
   exact (((((Below.refl _ w).alloc (Nat.le_refl _) _).alloc (by simp) _).alloc (by simp; omega) _).alloc (by simp; omega) _).alloc (by simp; omega) _
  ·
   simp; omega
  ·
   rintro k e; cases e; omega
 have hnew : ∀ k, k < w.heap.size + 4 → wi.heap[k]? = (((((w.alloc (.cells #[.int .i64 nn, .int .i64 low, .slice A rn c] 24)).alloc (.cells #[.string t.d, .int .i64 t.au, .int .i64 t.ro, .slice t.A3 t.n3 t.c3, .slice t.A4 t.n4 t.c4, .int .i64 t.ea, .int .i64 t.eb] 32)).alloc (.map #[] 0)).alloc (.cells #[.map (some (w.heap.size + 1 + 1))] 88)).alloc (.map #[] 0)).heap[k]? := fun k hk => hgrow.block k (by simp; omega) (by intro e; injection e with e; omega)
 have kD : wi.heap[w.heap.size]? = some (.cells #[.int .i64 nn, .int .i64 low, .slice A rn c] 24) := by
  rw [hnew _ (by omega)]; exact Qah (Qah (Qah (Qah (Qa9 _ _) _) _) _) _
 have kT : wi.heap[w.heap.size + 1]? = some (.cells #[.string t.d, .int .i64 t.au, .int .i64 t.ro, .slice t.A3 t.n3 t.c3, .slice t.A4 t.n4 t.c4, .int .i64 t.ea, .int .i64 t.eb] 32) := by
  rw [hnew _ (by omega)]; have := Qa9 (w.alloc (.cells #[.int .i64 nn, .int .i64 low, .slice A rn c] 24)) (.cells #[.string t.d, .int .i64 t.au, .int .i64 t.ro, .slice t.A3 t.n3 t.c3, .slice t.A4 t.n4 t.c4, .int .i64 t.ea, .int .i64 t.eb] 32); rw [World.size_alloc] at this; exact Qah (Qah (Qah this _) _) _
 have kI : wi.ownsMap Tryz.prog 9 (plainElem Tryz.prog 3) (w.heap.size + 1 + 1) 0 (.map [] : DataW Unit) := by
  have := World.ownsMap_made (H := Unit) ((w.alloc (.cells #[.int .i64 nn, .int .i64 low, .slice A rn c] 24)).alloc (.cells #[.string t.d, .int .i64 t.au, .int .i64 t.ro, .slice t.A3 t.n3 t.c3, .slice t.A4 t.n4 t.c4, .int .i64 t.ea, .int .i64 t.eb] 32)) Tryz.prog 9 (plainElem Tryz.prog 3); simp only [World.size_alloc] at this; exact ((this.alloc _).alloc _).kept hgrow (by intro e; injection e with e; omega)
 have kB : Boxed wi (w.heap.size + 1 + 1 + 1) 88 (.map (some (w.heap.size + 1 + 1))) := by
  unfold Boxed; rw [hnew _ (by omega)]; have := Qa9 (((w.alloc (.cells #[.int .i64 nn, .int .i64 low, .slice A rn c] 24)).alloc (.cells #[.string t.d, .int .i64 t.au, .int .i64 t.ro, .slice t.A3 t.n3 t.c3, .slice t.A4 t.n4 t.c4, .int .i64 t.ea, .int .i64 t.eb] 32)).alloc (.map #[] 0)) (.cells #[.map (some (w.heap.size + 1 + 1))] 88); simp only [World.size_alloc] at this; exact Qah this _
 have ltT := (Array.getElem?_eq_some_iff.1 kT).1; have ltI := hownW.lt; generalize hbw : Obj.cells #[.map (some (w.heap.size + 1 + 1 + 1 + 1))] 108 (0, 0) = bw; have d0 : (wi.alloc bw).cell? ⟨w.heap.size, 0, none⟩ = some (.int .i64 nn) := (Qaa (Qah kD _) 0).trans rfl; have d1 : (wi.alloc bw).cell? ⟨w.heap.size, 1, none⟩ = some (.int .i64 low) := (Qaa (Qah kD _) 1).trans rfl; have d2 : (wi.alloc bw).cell? ⟨w.heap.size, 2, none⟩ = some (.slice A rn c) := (Qaa (Qah kD _) 2).trans rfl; have d3 : (wi.alloc bw).cell? ⟨w.heap.size + 1, 2, none⟩ = some (.int .i64 t.ro) := (Qaa (Qah kT _) 2).trans rfl; subst hbw; refine callsIn_of_wp_marks Tryz.func62 rfl trivial ?_ rfl; simp only [Tryz.ntmps62, List.size_toArray, List.length_cons, List.length_nil, Nat.reduceAdd, Nat.reduceSub, Array.replicate_succ, Array.replicate_zero, List.push_toArray, List.append_toArray, List.nil_append, List.cons_append]; have HKD := Lib.hid kD; have HKT := Lib.hid kT; have HKI := Lib.hid kI; have HKB := Lib.hid kB; have HBel := Lib.hid hBel; have HOW := Lib.hid hownW; clear kD kT kI kB hBel hownW hgrow hnew hWx
 gi_wp2_with (gi_at_call 83; refine (down_in _ _ _ _ _ _ _ _).mono ?_; rintro e w' ⟨rfl, rfl⟩)
 -- RANGE
 obtain ⟨W0, hW0⟩ : ∃ W0, (((wi.alloc (.cells #[.map (some (w.heap.size + 1 + 1 + 1 + 1))] 108)).alloc (.cells #[.int .i64 nn, .int .i64 low, .slice A rn c] 24)).alloc (.cells #[.int .i64 t.ro] 3)) = W0 := ⟨_, rfl⟩; have z0 : W0.heap.size = wi.heap.size + 3 := by rw [← hW0]; simp
 have a1 : Below wi.heap.size wi W0 := by
  rw [← hW0]; exact (((Below.refl _ _).alloc (Nat.le_refl _) _).alloc (by simp) _).alloc (by simp; omega) _
 have bW : Boxed W0 wi.heap.size 108 (.map (some (w.heap.size + 1 + 1 + 1 + 1))) := by
  rw [← hW0]; exact Qah (Qah (Qa9 _ _) _) _
 have bD : W0.heap[wi.heap.size + 1]? = some (.cells #[.int .i64 nn, .int .i64 low, .slice A rn c] 24) := by
  rw [← hW0]; have := Qa9 (wi.alloc (.cells #[.map (some (w.heap.size + 1 + 1 + 1 + 1))] 108)) (.cells #[.int .i64 nn, .int .i64 low, .slice A rn c] 24); rw [World.size_alloc] at this; exact Qah this _
 have bF : W0.heap[wi.heap.size + 1 + 1]? = some (.cells #[.int .i64 t.ro] 3 (0, 0)) := by
  rw [← hW0]; have := Qa9 ((wi.alloc (.cells #[.map (some (w.heap.size + 1 + 1 + 1 + 1))] 108)).alloc (.cells #[.int .i64 nn, .int .i64 low, .slice A rn c] 24)) (.cells #[.int .i64 t.ro] 3); simp only [World.size_alloc] at this; exact this
 have hB0 : Below w.heap.size w W0 := Qa0 HBel.out a1; have hzw := HBel.out.size; rw [hW0]; clear d0 d1 d2 d3 hrun; have HRdy := Lib.hid (Qis 3 (by decide) (wi.heap.size + 1 + 1) (wi.heap.size + 1) w.heap.size t.ro nn low A c rn rnd W0 (by omega) (fun r w1 hb => HRd.out r w1 (hB0.trans hb)) bF bD m0 rl hx)
 have HI0 : Qfq w t rnd M (w.heap.size + 1 + 1) (w.heap.size + 1 + 1 + 1) wi.heap.size W0.heap.size [] W0 := by
  refine ⟨w.heap.size + 1 + 1 + 1 + 1, _, 0, _, _, (a1.block _ HKB.out.lt).trans HKB.out, Qdb HKI.out a1, Qc6.nil, by simp, bW, Qdb HOW.out a1, Qba.put Qba.nil (⟨_, rfl⟩) _, by omega, by omega, by omega, (a1.block _ ltT).trans HKT.out, hB0, ⟨_, _, bD⟩, ⟨_, _, bF⟩⟩
 refine Qeg (by decide) rfl (enters_of Tryz.func102 (by kernel_rfl) rfl) HRdy.out (fun _ => rfl) ⟨Below.refl _ _, rfl, rfl⟩ (fun h k => h.trans k)
  (fun W o hs => ⟨(Below.refl _ W).alloc (by omega) o, Below.heap_alloc _ _ _ (by omega), Below.heap_alloc _ _ _ (by omega)⟩)
  (fun W r r' hl => ⟨belowK_b (w := w) (Nat.le_refl _) W _ _ _ (by omega) hl rfl rfl, World.putObj_heap_other (by omega), World.putObj_heap_other (by omega)⟩)
  (Qfq w t rnd M (w.heap.size + 1 + 1) (w.heap.size + 1 + 1 + 1) wi.heap.size W0.heap.size) (fun pre A B h hb => h.below hb) (fun pre W r r' h hl => h.put hl (by omega) (by omega)) (fun x W r r' h hl => put_rdy h hl) HI0
  (fun x => { tmps := #[.agg #[.int .i64 nn, .int .i64 low, .slice A rn c], .agg #[.string t.d, .int .i64 t.au, .int .i64 t.ro, .slice t.A3 t.n3 t.c3, .slice t.A4 t.n4 t.c4, .int .i64 t.ea, .int .i64 t.eb], .pointer (some ⟨w.heap.size, 0, none⟩), .pointer (some ⟨w.heap.size + 1, 0, none⟩), .map none, .pointer (some ⟨w.heap.size + 1 + 1 + 1, 0, none⟩), .pointer (some ⟨wi.heap.size, 0, none⟩), .int .i64 x.r, .slice x.A x.rs.length x.c, undef, undef, undef, undef, undef, .map (some (w.heap.size + 1 + 1)), .map (some (w.heap.size + 1 + 1 + 1 + 1)), .pointer (some ⟨w.heap.size + 1, 0, none⟩), .string t.d, .map (some (w.heap.size + 1 + 1 + 1 + 1)), .agg #[.int .i64 nn, .int .i64 low, .slice A rn c], .pointer (some ⟨w.heap.size + 1, 1, none⟩), .pointer (some ⟨w.heap.size + 1, 2, none⟩), .int .i64 t.ro, .func (.func 102) #[] #[.pointer (some ⟨wi.heap.size + 1 + 1, 0, none⟩), .pointer (some ⟨wi.heap.size + 1, 0, none⟩)], .int .i64 x.r, .slice x.A x.rs.length x.c, undef, undef, undef, undef, undef, undef, undef, undef, undef, undef, undef, undef, undef, undef, undef, undef, undef, undef, undef, undef, undef, undef, undef, undef, undef, undef, undef, undef, undef, undef, undef, undef, undef, undef, undef, undef, undef, undef, undef, undef, undef, undef, undef, undef, undef, undef, undef], defers := [] }) ?assign ?body ?done
 case assign =>
  intro x W K hK; unfold encY
  gi_wp2
  exact hK
 case done =>
  rintro ys W rfl ⟨mw, nw, ni, Dw, Di, h1, h2, h3, h4, h5, h6, h7, h8, h9, h10, h11, h12, _, _⟩ hK; have hc := h1.cell
  gi_wp2
  refine ⟨by simp, .inl ⟨_, _, rfl, run_takeDeferred hK, ?_⟩⟩; refine ⟨_, by simp [results, Tryz.results62, go_sem], _, _, _, rfl, by omega, Qi7 h2 (by omega) _, h3, ?_⟩; exact h12.trans (belowK_b (w := w) (Nat.le_refl _) W W0.heap.size _ _ (by omega) hK rfl rfl)
 case body =>
  clear HI0 HRdy; rintro pre ⟨xr, xA, xc, xrs⟩ W ⟨mw, nw, ni, Dw, Di, h1, h2, h3, h4, h5, h6, h7, h8, h9, h10, h11, h12, ⟨c13, t13, h13⟩, ⟨c14, t14, h14⟩⟩ ⟨hrow, hpe⟩ hN ⟨lr, hlr⟩ hdr; dsimp only at hrow hpe; have hlt : W0.heap.size + 1 < W.heap.size := (Array.getElem?_eq_some_iff.1 hlr).1; have HLR := Lib.hid hlr; have HDR := Lib.hid hdr; have H13 := Lib.hid h13; have H14 := Lib.hid h14; clear hlr hdr h13 h14
  have hst : pastS t.d t.ro rnd ((pre ++ [(⟨xr, xA, xc, xrs⟩ : YE)]).map (·.r)) = roundE t.d t.ro rnd (pastS t.d t.ro rnd (pre.map (·.r))) xr := by
   unfold pastS; rw [List.map_append, List.foldl_append]; rfl
  have hxl : xrs.length = (rnd xr).length := hpe.len
  have hml : xrs.length ≤ 9223372036854775807 := by
   have := HM.out xr; have hM2 := HM2.out; have h1' : (rl.length + 1) * M ≥ M := Nat.le_mul_of_pos_left M (by omega); omega
  have HST := Lib.hid hst; have HX := Lib.hid hxl; have HML := Lib.hid hml; have HP := Lib.hid hpe; have HR := Lib.hid hrow; obtain ⟨S0, hS0⟩ : ∃ S0, pastS t.d t.ro rnd (pre.map (·.r)) = S0 := ⟨_, rfl⟩; rw [hS0] at h3 h7 hst; have HH := Lib.hid h12; have HMI := Lib.hid h2; have HMW := Lib.hid h6; have H3 := Lib.hid h3; have H7 := Lib.hid h7; have H4 := Lib.hid h4; have hwt := h6.lt; have hit := h2.lt; clear hpe hrow hxl h3 h7 h12 h2 h6 h4 HST; have HST := Lib.hid hst; clear hst
  gi_wp2
  gi_loopw [29] (fun p wr => ∃ (j ni' nx nw' : Nat) (Di' Dw' Dx : DataW Unit) (st : List (ByteArray × Int) × List ByteArray × List ByteArray), p = .int .i64 j ∧ j ≤ xrs.length ∧ Qan (((rnd xr).take j).foldl (stepE t.d t.ro xr) (S0.1, S0.2, []) = st) ∧
   Qan (wr.ownsMap Tryz.prog 9 (plainElem Tryz.prog 3) (w.heap.size + 1 + 1) ni' Di') ∧ Qan (Qc6 Di' st.1) ∧ Qan (ni' ≤ pre.length * M + j) ∧
   Qan (wr.ownsMap Tryz.prog 9 (plainElem Tryz.prog 4) mw nw' Dw') ∧ Qan (Qba Dw' st.2.1) ∧
   Qan (wr.ownsMap Tryz.prog 9 (plainElem Tryz.prog 4) W.heap.size nx Dx) ∧ Qan (Qba Dx st.2.2) ∧ Qan (nx ≤ (((rnd xr).take j).map (fun x => x.ps.length)).sum) ∧
   Qan (NM W wr) ∧ Qan (Below w.heap.size w wr))
   (fun p _ => xrs.length - (RowKit.intOf p).toNat)
  case atStart =>
   exact ⟨0, ni, 0, nw, Di, Dw, .map [], (S0.1, S0.2, []), rfl, Nat.zero_le _, ⟨rfl⟩, ⟨HMI.out.alloc _⟩, ⟨H3.out⟩, ⟨H4.out⟩, ⟨HMW.out.alloc _⟩, ⟨H7.out⟩, ⟨World.ownsMap_made _ _ _ _⟩, ⟨Qba.nil⟩, ⟨by simp⟩, ⟨NM.alloc _ _⟩, ⟨HH.out.alloc HH.out.size _⟩⟩
  case round =>
   clear HMI HMW H3 H7 H4; obtain ⟨j, ni', nx, nw', Di', Dw', Dx, st, rfl, hj, HST0, HI, HIm, HIn, HWo, HWm, HXo, HXm, HXn, HNM, HB⟩ := hrel
   by_cases hlt2 : j < xrs.length
   ·
    have hltz := eq_true (show (j : Int) < (xrs.length : Int) by omega); have p0 := eq_true (show 0 ≤ (j : Int) by omega); have tn : ((j : Int)).toNat = j := Int.toNat_natCast j; obtain ⟨y, hy⟩ : ∃ y, xrs[j]? = some y := ⟨_, List.getElem?_eq_getElem hlt2⟩; obtain ⟨z, hz⟩ : ∃ z, (rnd xr)[j]? = some z := ⟨_, List.getElem?_eq_getElem (by rw [← HX.out]; exact hlt2)⟩; obtain ⟨yd, yau, yro, yA3, yn3, yc3, yA4, yn4, yc4, yea, yeb⟩ := y; obtain ⟨zd, zro, zps⟩ := z; obtain ⟨ad, e0, x0, x1, x2, x3, x4, x5, x6⟩ := (HNM.out.rowE HR.out) j _ hy; obtain ⟨q1, q2, q3, q4⟩ := HP.out.get j _ _ hy hz; have hzm : (⟨zd, zro, zps⟩ : DX) ∈ rnd xr := List.mem_of_getElem? hz; obtain ⟨sz1, sz2⟩ := Hsz.out xr _ hzm; have hwfr := Hwf.out xr _ hzm; dsimp only at q1 q2 q3 q4 sz1 sz2 x0 x1 x2 x3 x4 x5 x6; subst q1 q2 q3; have HQ4 := Lib.hid q4; have HSZ2 := Lib.hid sz2; have HW : Hid (wrap64 ((j : Int) + 1) = ((j + 1 : Nat) : Int)) := Lib.hid (wrap_succ (Nat.lt_of_lt_of_le hlt2 HML.out)); have HTK : Hid (((rnd xr).take (j + 1)).foldl (stepE t.d t.ro xr) (S0.1, S0.2, []) = stepE t.d t.ro xr st ⟨yd, yro, zps⟩) := Lib.hid (by rw [Qdd hz, List.foldl_append, HST0.out]; rfl); have HSM : Hid ((((rnd xr).take (j + 1)).map (fun x => x.ps.length)).sum = (((rnd xr).take j).map (fun x => x.ps.length)).sum + zps.length) := Lib.hid (by rw [Qdd hz, List.map_append, List.sum_append]; simp); have HSB : Hid ((((rnd xr).take (j + 1)).map (fun x => x.ps.length)).sum ≤ T) := Lib.hid (Nat.le_trans (Qny _ _) (HT.out xr)); have HCAP : Hid (pre.length * M + j < 4611686018427387904) := Lib.hid (cap_lem (HM.out xr) (Nat.lt_of_lt_of_eq hlt2 HX.out) hN HM2.out); have HWA := Lib.hid (HWo.out.alloc (.cells #[.string yd, .int .i64 yau, .int .i64 yro, .slice yA3 yn3 yc3, .slice yA4 zps.length yc4, .int .i64 yea, .int .i64 yeb] 32)); have HNA := Lib.hid (HNM.out.trans (NM.alloc wr (.cells #[.string yd, .int .i64 yau, .int .i64 yro, .slice yA3 yn3 yc3, .slice yA4 zps.length yc4, .int .i64 yea, .int .i64 yeb] 32))); have HBA := Lib.hid (HB.out.alloc HB.out.size (.cells #[.string yd, .int .i64 yau, .int .i64 yro, .slice yA3 yn3 yc3, .slice yA4 zps.length yc4, .int .i64 yea, .int .i64 yeb] 32)); have HXB : Hid ((wr.alloc (.cells #[.string yd, .int .i64 yau, .int .i64 yro, .slice yA3 yn3 yc3, .slice yA4 zps.length yc4, .int .i64 yea, .int .i64 yeb] 32)).heap[wr.heap.size]? = some (.cells #[.string yd, .int .i64 yau, .int .i64 yro, .slice yA3 yn3 yc3, .slice yA4 zps.length yc4, .int .i64 yea, .int .i64 yeb] 32 (0, 0))) := Lib.hid (Qa9 _ _); have hwc := (HNA.out.boxed h5).cell; have htc0 : (wr.alloc (.cells #[.string yd, .int .i64 yau, .int .i64 yro, .slice yA3 yn3 yc3, .slice yA4 zps.length yc4, .int .i64 yea, .int .i64 yeb] 32)).cell? ⟨w.heap.size + 1, 0, none⟩ = some (.string t.d) := (Qaa (HNA.out.blk h11) 0).trans rfl; have htc2 : (wr.alloc (.cells #[.string yd, .int .i64 yau, .int .i64 yro, .slice yA3 yn3 yc3, .slice yA4 zps.length yc4, .int .i64 yea, .int .i64 yeb] 32)).cell? ⟨w.heap.size + 1, 2, none⟩ = some (.int .i64 t.ro) := (Qaa (HNA.out.blk h11) 2).trans rfl; have gwi : w.heap.size ≤ wr.heap.size := HB.out.size; have gmw := HWo.out.lt; have gmx := HXo.out.lt; obtain ⟨bq, hlook, hat⟩ := Qfc HWA.out Qch Tryz.underlying108 Tryz.underlying4 (Qfe _) (Qcl sz1)
    have hbq : bq = decide (yd ∈ st.2.1) := by
     have := HWm.out yd; rw [this] at hat
     simpa using hat.symm
    cases e0; clear hat hy hz hzm q4 sz2
    cases bq with
    | false =>
     have hno : yd ∉ st.2.1 := by simpa using hbq.symm
     have HNO := Lib.hid hno; clear hbq hno
     gi_wp2
     go_roundw
     case rel => exact ⟨j + 1, ni', nx, nw', Di', Dw', Dx, st, by first | exact congrArg _ HW.out | go_num, by omega, ⟨HTK.out.trans (step_no (fun h => HNO.out h.1))⟩, ⟨HI.out.alloc _⟩, ⟨HIm.out⟩, ⟨by have := HIn.out; omega⟩, ⟨HWo.out.alloc _⟩, ⟨HWm.out⟩, ⟨HXo.out.alloc _⟩, ⟨HXm.out⟩, ⟨by rw [HSM.out]; have := HXn.out; omega⟩, ⟨HNM.out.trans (NM.alloc _ _)⟩, ⟨HB.out.alloc HB.out.size _⟩⟩
     case measure => first | exact Qle hlt2 | exact Qh9 hlt2 HW.out
    | true =>
     have hyes : yd ∈ st.2.1 := by simpa using hbq.symm
     have HYES := Lib.hid hyes; clear hbq hyes
     by_cases hr : xr = t.ro
     ·
      have hr1 : (xr == t.ro) = true := beq_iff_eq.2 hr
      by_cases hd : yd = t.d
      ·
       have hd1 : (yd.toList == t.d.toList) = true := by rw [hd]; exact beq_self_eq_true _
       have hd2 : (yd.toList != t.d.toList) = false := by rw [bne, hd1]; rfl
       have HC := Lib.hid (show yd ∈ st.2.1 ∧ (xr = t.ro → yd = t.d) from ⟨HYES.out, fun _ => hd⟩); clear hr hd
       gi_wp2_with (first
        | (gi_at_delete; refine wpListIn_delete_own _ rfl _ _ 108 9 rfl 4 Qch Tryz.underlying108 _ mw nw' Dw' rfl HWA.out _ _ rfl (Qcl sz1) ?_; intro w1 hown1 hturn1; have NM1 := Lib.hid (HNA.out.trans (NM.grown HWA.out hturn1.grown)); have BB1 := Lib.hid ((HBA.out.grown hturn1.grown HBA.out.size (by intro k e; cases e; omega))); have MW1 := Lib.hid hown1; have MI1 := Lib.hid ((HI.out.alloc (.cells #[.string yd, .int .i64 yau, .int .i64 yro, .slice yA3 yn3 yc3, .slice yA4 zps.length yc4, .int .i64 yea, .int .i64 yeb] 32)).kept hturn1.grown (by intro e; injection e with e; omega)); have MX1 := Lib.hid ((HXo.out.alloc (.cells #[.string yd, .int .i64 yau, .int .i64 yro, .slice yA3 yn3 yc3, .slice yA4 zps.length yc4, .int .i64 yea, .int .i64 yeb] 32)).kept hturn1.grown (by intro e; injection e with e; omega)); have XB1 := Lib.hid ((NM.grown HWA.out hturn1.grown).blk HXB.out); have g1 := (Qaa XB1.out 0).trans (show _ = some (Value.string yd) from rfl); have g2 := (NM1.out.boxed h1).cell; clear hown1 hturn1)
        | (gi_at_mapUpdate; refine wpListIn_mapUpdate_own _ rfl _ _ _ 88 rfl 9 3 Qch Tryz.underlying88 _ (w.heap.size + 1 + 1) ni' Di' rfl MI1.out (by have := HIn.out; have := HCAP.out; unfold maxLen; omega) _ _ _ rfl rfl (Qcl sz1) _ [] (plainElem_int Tryz.underlying3 hwfr) ?_; intro w2 hown2 hgrow2; have NM2 := Lib.hid (NM1.out.trans (NM.grown MI1.out hgrow2)); have BB2 := Lib.hid (BB1.out.grown hgrow2 BB1.out.size (by intro k e; cases e; omega)); have MI2 := Lib.hid hown2; have MW2 := Lib.hid (MW1.out.kept hgrow2 (by intro e; injection e with e; omega)); have MX2 := Lib.hid (MX1.out.kept hgrow2 (by intro e; injection e with e; omega)); have XB2 := Lib.hid ((NM.grown MI1.out hgrow2).blk XB1.out); have g3 := (Qaa XB2.out 4).trans (show _ = some (Value.slice yA4 zps.length yc4) from rfl); clear hown2 hgrow2 NM1 BB1 MI1 MW1 MX1 XB1 g1 g2))
       have HNB : Hid (nx + zps.length < 4611686018427387904) := Lib.hid (cap2 HXn.out HSM.out HSB.out HT2.out)
       gi_loopw [63] (fun p wv => ∃ (i nx2 : Nat) (Dx2 : DataW Unit), p = .int .i64 i ∧ i ≤ zps.length ∧ Qan (wv.ownsMap Tryz.prog 9 (plainElem Tryz.prog 4) W.heap.size nx2 Dx2) ∧ Qan (Qba Dx2 ((zps.take i).reverse ++ st.2.2)) ∧ Qan (nx2 ≤ nx + i) ∧
        Qan (wv.ownsMap Tryz.prog 9 (plainElem Tryz.prog 3) (w.heap.size + 1 + 1) (ni' + 1) (Di'.put (Qi2 yd) (.lit (.int .i64 xr)))) ∧ Qan (wv.ownsMap Tryz.prog 9 (plainElem Tryz.prog 4) mw nw' (Dw'.del (Qi2 yd))) ∧ Qan (NM W wv) ∧ Qan (Below w.heap.size w wv))
        (fun p _ => zps.length - (RowKit.intOf p).toNat)
       case atStart => exact ⟨0, nx, Dx, rfl, Nat.zero_le _, ⟨MX2.out⟩, ⟨HXm.out⟩, ⟨Nat.le_refl _⟩, ⟨MI2.out⟩, ⟨MW2.out⟩, ⟨NM2.out⟩, ⟨BB2.out⟩⟩
       case round =>
        clear MX2 MI2 MW2 NM2 BB2 XB2; obtain ⟨i, nx2, Dx2, rfl, hi, JX, JXm, JXn, JI, JW, JN, JB⟩ := hrel
        by_cases hlt3 : i < zps.length
        ·
         have hltz3 := eq_true (show (i : Int) < (zps.length : Int) by omega); have p3 := eq_true (show 0 ≤ (i : Int) by omega); have tn3 : ((i : Int)).toNat = i := Int.toNat_natCast i; obtain ⟨pp, hpp⟩ : ∃ pp, zps[i]? = some pp := ⟨_, List.getElem?_eq_getElem hlt3⟩; obtain ⟨ad3, e3, x30⟩ := (JN.out.rowS HQ4.out) i pp hpp; have szp := HSZ2.out pp (List.mem_of_getElem? hpp); have HPP := Lib.hid hpp; have HWi : Hid (wrap64 ((i : Int) + 1) = ((i + 1 : Nat) : Int)) := Lib.hid (wrap_succ (by have := HNB.out; omega)); cases e3; clear hpp
         gi_wp2_with (gi_at_mapUpdate; refine wpListIn_mapUpdate_own _ rfl _ _ _ 108 rfl 9 4 Qch Tryz.underlying108 _ W.heap.size nx2 Dx2 rfl JX.out (by have := JXn.out; have := HNB.out; unfold maxLen; omega) _ _ _ rfl rfl (Qcl szp) _ [] (plainElem_bool Tryz.underlying4 true) ?_; intro w3 hown3 hgrow3; have JN3 := Lib.hid (JN.out.trans (NM.grown JX.out hgrow3)); have JB3 := Lib.hid (JB.out.grown hgrow3 JB.out.size (by intro k e; cases e; omega)); have JX3 := Lib.hid hown3; have JI3 := Lib.hid (JI.out.kept hgrow3 (by intro e; injection e with e; omega)); have JW3 := Lib.hid (JW.out.kept hgrow3 (by intro e; injection e with e; omega)); clear hown3 hgrow3)
         go_roundw
         case rel => exact ⟨i + 1, nx2 + 1, _, by first | rfl | exact congrArg _ HWi.out | go_num, by omega, ⟨JX3.out⟩, ⟨by rw [Qdd HPP.out, List.reverse_append]; exact Qba.put JXm.out JX.out.isMap pp⟩, ⟨by have := JXn.out; omega⟩, ⟨JI3.out⟩, ⟨JW3.out⟩, ⟨JN3.out⟩, ⟨JB3.out⟩⟩
         case measure => first | exact Qle hlt3 | exact Qh9 hlt3 HWi.out
        ·
         have hltz3 := eq_false (show ¬ (i : Int) < (zps.length : Int) by omega); have ei : i = zps.length := by omega
         subst ei; rw [List.take_length] at JXm
         gi_wp2
         go_roundw
         case rel => exact ⟨j + 1, ni' + 1, nx2, nw', _, _, Dx2, ((yd, xr) :: st.1, st.2.1.filter (fun y => decide (y ≠ yd)), zps.reverse ++ st.2.2), by first | rfl | exact congrArg _ HW.out | go_num, by omega, ⟨HTK.out.trans (step_yes HC.out)⟩, ⟨JI.out⟩, ⟨Qc6.put HIm.out HI.out.isMap yd xr⟩, ⟨by have := HIn.out; omega⟩, ⟨JW.out⟩, ⟨Qba.del HWm.out yd⟩, ⟨JX.out⟩, ⟨JXm.out⟩, ⟨by rw [HSM.out]; have := JXn.out; have := HXn.out; omega⟩, ⟨JN.out⟩, ⟨JB.out⟩⟩
         case measure => first | exact Qle hlt2 | exact Qh9 hlt2 HW.out
      ·
       have hd1 : (yd.toList == t.d.toList) = false := by
        rw [beq_eq_false_iff_ne]
        exact fun h => hd (Qfg h)
       have hd2 : (yd.toList != t.d.toList) = true := by rw [bne, hd1]; rfl
       have HNO := Lib.hid (show ¬ (yd ∈ st.2.1 ∧ (xr = t.ro → yd = t.d)) from fun h => hd (h.2 hr)); clear hd hr
       gi_wp2
       go_roundw
       case rel => exact ⟨j + 1, ni', nx, nw', Di', Dw', Dx, st, by first | exact congrArg _ HW.out | go_num, by omega, ⟨HTK.out.trans (step_no HNO.out)⟩, ⟨HI.out.alloc _⟩, ⟨HIm.out⟩, ⟨by have := HIn.out; omega⟩, ⟨HWo.out.alloc _⟩, ⟨HWm.out⟩, ⟨HXo.out.alloc _⟩, ⟨HXm.out⟩, ⟨by rw [HSM.out]; have := HXn.out; omega⟩, ⟨HNM.out.trans (NM.alloc _ _)⟩, ⟨HB.out.alloc HB.out.size _⟩⟩
       case measure => first | exact Qle hlt2 | exact Qh9 hlt2 HW.out
     ·
      have hr1 : (xr == t.ro) = false := beq_eq_false_iff_ne.2 hr; have HC := Lib.hid (show yd ∈ st.2.1 ∧ (xr = t.ro → yd = t.d) from ⟨HYES.out, fun h => absurd h hr⟩); clear hr
      gi_wp2_with (first
       | (gi_at_delete; refine wpListIn_delete_own _ rfl _ _ 108 9 rfl 4 Qch Tryz.underlying108 _ mw nw' Dw' rfl HWA.out _ _ rfl (Qcl sz1) ?_; intro w1 hown1 hturn1; have NM1 := Lib.hid (HNA.out.trans (NM.grown HWA.out hturn1.grown)); have BB1 := Lib.hid ((HBA.out.grown hturn1.grown HBA.out.size (by intro k e; cases e; omega))); have MW1 := Lib.hid hown1; have MI1 := Lib.hid ((HI.out.alloc (.cells #[.string yd, .int .i64 yau, .int .i64 yro, .slice yA3 yn3 yc3, .slice yA4 zps.length yc4, .int .i64 yea, .int .i64 yeb] 32)).kept hturn1.grown (by intro e; injection e with e; omega)); have MX1 := Lib.hid ((HXo.out.alloc (.cells #[.string yd, .int .i64 yau, .int .i64 yro, .slice yA3 yn3 yc3, .slice yA4 zps.length yc4, .int .i64 yea, .int .i64 yeb] 32)).kept hturn1.grown (by intro e; injection e with e; omega)); have XB1 := Lib.hid ((NM.grown HWA.out hturn1.grown).blk HXB.out); have g1 := (Qaa XB1.out 0).trans (show _ = some (Value.string yd) from rfl); have g2 := (NM1.out.boxed h1).cell; clear hown1 hturn1)
       | (gi_at_mapUpdate; refine wpListIn_mapUpdate_own _ rfl _ _ _ 88 rfl 9 3 Qch Tryz.underlying88 _ (w.heap.size + 1 + 1) ni' Di' rfl MI1.out (by have := HIn.out; have := HCAP.out; unfold maxLen; omega) _ _ _ rfl rfl (Qcl sz1) _ [] (plainElem_int Tryz.underlying3 hwfr) ?_; intro w2 hown2 hgrow2; have NM2 := Lib.hid (NM1.out.trans (NM.grown MI1.out hgrow2)); have BB2 := Lib.hid (BB1.out.grown hgrow2 BB1.out.size (by intro k e; cases e; omega)); have MI2 := Lib.hid hown2; have MW2 := Lib.hid (MW1.out.kept hgrow2 (by intro e; injection e with e; omega)); have MX2 := Lib.hid (MX1.out.kept hgrow2 (by intro e; injection e with e; omega)); have XB2 := Lib.hid ((NM.grown MI1.out hgrow2).blk XB1.out); have g3 := (Qaa XB2.out 4).trans (show _ = some (Value.slice yA4 zps.length yc4) from rfl); clear hown2 hgrow2 NM1 BB1 MI1 MW1 MX1 XB1 g1 g2))
      have HNB : Hid (nx + zps.length < 4611686018427387904) := Lib.hid (cap2 HXn.out HSM.out HSB.out HT2.out)
      gi_loopw [63] (fun p wv => ∃ (i nx2 : Nat) (Dx2 : DataW Unit), p = .int .i64 i ∧ i ≤ zps.length ∧ Qan (wv.ownsMap Tryz.prog 9 (plainElem Tryz.prog 4) W.heap.size nx2 Dx2) ∧ Qan (Qba Dx2 ((zps.take i).reverse ++ st.2.2)) ∧ Qan (nx2 ≤ nx + i) ∧
       Qan (wv.ownsMap Tryz.prog 9 (plainElem Tryz.prog 3) (w.heap.size + 1 + 1) (ni' + 1) (Di'.put (Qi2 yd) (.lit (.int .i64 xr)))) ∧ Qan (wv.ownsMap Tryz.prog 9 (plainElem Tryz.prog 4) mw nw' (Dw'.del (Qi2 yd))) ∧ Qan (NM W wv) ∧ Qan (Below w.heap.size w wv))
       (fun p _ => zps.length - (RowKit.intOf p).toNat)
      case atStart => exact ⟨0, nx, Dx, rfl, Nat.zero_le _, ⟨MX2.out⟩, ⟨HXm.out⟩, ⟨Nat.le_refl _⟩, ⟨MI2.out⟩, ⟨MW2.out⟩, ⟨NM2.out⟩, ⟨BB2.out⟩⟩
      case round =>
       clear MX2 MI2 MW2 NM2 BB2 XB2; obtain ⟨i, nx2, Dx2, rfl, hi, JX, JXm, JXn, JI, JW, JN, JB⟩ := hrel
       by_cases hlt3 : i < zps.length
       ·
        have hltz3 := eq_true (show (i : Int) < (zps.length : Int) by omega); have p3 := eq_true (show 0 ≤ (i : Int) by omega); have tn3 : ((i : Int)).toNat = i := Int.toNat_natCast i; obtain ⟨pp, hpp⟩ : ∃ pp, zps[i]? = some pp := ⟨_, List.getElem?_eq_getElem hlt3⟩; obtain ⟨ad3, e3, x30⟩ := (JN.out.rowS HQ4.out) i pp hpp; have szp := HSZ2.out pp (List.mem_of_getElem? hpp); have HPP := Lib.hid hpp; have HWi : Hid (wrap64 ((i : Int) + 1) = ((i + 1 : Nat) : Int)) := Lib.hid (wrap_succ (by have := HNB.out; omega)); cases e3; clear hpp
        gi_wp2_with (gi_at_mapUpdate; refine wpListIn_mapUpdate_own _ rfl _ _ _ 108 rfl 9 4 Qch Tryz.underlying108 _ W.heap.size nx2 Dx2 rfl JX.out (by have := JXn.out; have := HNB.out; unfold maxLen; omega) _ _ _ rfl rfl (Qcl szp) _ [] (plainElem_bool Tryz.underlying4 true) ?_; intro w3 hown3 hgrow3; have JN3 := Lib.hid (JN.out.trans (NM.grown JX.out hgrow3)); have JB3 := Lib.hid (JB.out.grown hgrow3 JB.out.size (by intro k e; cases e; omega)); have JX3 := Lib.hid hown3; have JI3 := Lib.hid (JI.out.kept hgrow3 (by intro e; injection e with e; omega)); have JW3 := Lib.hid (JW.out.kept hgrow3 (by intro e; injection e with e; omega)); clear hown3 hgrow3)
        go_roundw
        case rel => exact ⟨i + 1, nx2 + 1, _, by first | rfl | exact congrArg _ HWi.out | go_num, by omega, ⟨JX3.out⟩, ⟨by rw [Qdd HPP.out, List.reverse_append]; exact Qba.put JXm.out JX.out.isMap pp⟩, ⟨by have := JXn.out; omega⟩, ⟨JI3.out⟩, ⟨JW3.out⟩, ⟨JN3.out⟩, ⟨JB3.out⟩⟩
        case measure => first | exact Qle hlt3 | exact Qh9 hlt3 HWi.out
       ·
        have hltz3 := eq_false (show ¬ (i : Int) < (zps.length : Int) by omega); have ei : i = zps.length := by omega
        subst ei; rw [List.take_length] at JXm
        gi_wp2
        go_roundw
        case rel => exact ⟨j + 1, ni' + 1, nx2, nw', _, _, Dx2, ((yd, xr) :: st.1, st.2.1.filter (fun y => decide (y ≠ yd)), zps.reverse ++ st.2.2), by first | rfl | exact congrArg _ HW.out | go_num, by omega, ⟨HTK.out.trans (step_yes HC.out)⟩, ⟨JI.out⟩, ⟨Qc6.put HIm.out HI.out.isMap yd xr⟩, ⟨by have := HIn.out; omega⟩, ⟨JW.out⟩, ⟨Qba.del HWm.out yd⟩, ⟨JX.out⟩, ⟨JXm.out⟩, ⟨by rw [HSM.out]; have := JXn.out; have := HXn.out; omega⟩, ⟨JN.out⟩, ⟨JB.out⟩⟩
        case measure => first | exact Qle hlt2 | exact Qh9 hlt2 HW.out
   ·
    have hltz := eq_false (show ¬ (j : Int) < (xrs.length : Int) by omega); have hje : j = xrs.length := by omega
    subst hje; have HFS : Hid ((rnd xr).foldl (stepE t.d t.ro xr) (S0.1, S0.2, []) = st) := Lib.hid (by have := HST0.out; rwa [HX.out, List.take_length] at this); have hwb := (HNM.out.boxed h5).cell; have hwf2 := (HNM.out.boxed h5).frozen
    gi_wp2
    have hsz0 := HNM.out.1; have gsz := HH.out.size; refine ⟨⟨(Qk9 HH.out HB.out hsz0).setCell (by show w.heap.size ≤ wi.heap.size; omega) _, ?_, ?_⟩, ?_, ?_, ?_⟩
    ·
     exact (Below.heap_setCell _ _ _ _ (by show wi.heap.size + 1 ≠ wi.heap.size; omega)).trans ((HNM.out.blk H13.out).trans H13.out.symm)
    ·
     exact (Below.heap_setCell _ _ _ _ (by show wi.heap.size + 1 + 1 ≠ wi.heap.size; omega)).trans ((HNM.out.blk H14.out).trans H14.out.symm)
    ·
     rw [show Qfq w t rnd M (w.heap.size + 1 + 1) (w.heap.size + 1 + 1 + 1) wi.heap.size W0.heap.size (pre ++ [(⟨xr, xA, xc, xrs⟩ : YE)]) = Qfq w t rnd M (w.heap.size + 1 + 1) (w.heap.size + 1 + 1 + 1) wi.heap.size W0.heap.size (pre ++ [(⟨xr, xA, xc, xrs⟩ : YE)]) from rfl]; have hst2 := HST.out; refine ⟨W.heap.size, nx, ni', Dx, Di', (HNM.out.boxed h1).other (by omega) _, HI.out.setCell (by show w.heap.size + 1 + 1 ≠ wi.heap.size; omega) _, ?_, ?_, (HNM.out.boxed h5).set _, HXo.out.setCell (by show W.heap.size ≠ wi.heap.size; omega) _, ?_, hit, by omega, by omega, ?_, HB.out.setCell (by show w.heap.size ≤ wi.heap.size; omega) _, ⟨c13, t13, ?_⟩, ⟨c14, t14, ?_⟩⟩
     ·
      rw [hst2]; show Qc6 Di' ((rnd xr).foldl (stepE t.d t.ro xr) (S0.1, S0.2, [])).1; rw [HFS.out]; exact HIm.out
     ·
      have h_ := HIn.out; have h2_ := HM.out xr; have h3_ := HX.out; rw [List.length_append]; show ni' ≤ (pre.length + 1) * M; rw [Nat.add_mul, Nat.one_mul]; omega
     ·
      rw [hst2]; show Qba Dx ((rnd xr).foldl (stepE t.d t.ro xr) (S0.1, S0.2, [])).2.2; rw [HFS.out]; exact HXm.out
     ·
      exact (Below.heap_setCell _ _ _ _ (by show w.heap.size + 1 ≠ wi.heap.size; omega)).trans (HNM.out.blk h11)
     ·
      exact (Below.heap_setCell _ _ _ _ (by show wi.heap.size + 1 ≠ wi.heap.size; omega)).trans (HNM.out.blk H13.out)
     ·
      exact (Below.heap_setCell _ _ _ _ (by show wi.heap.size + 1 + 1 ≠ wi.heap.size; omega)).trans (HNM.out.blk H14.out)
    ·
     exact (Below.heap_setCell _ _ _ _ (by show W0.heap.size ≠ wi.heap.size; omega)).trans ((HNM.out.2 _ _ HDR.out (fun _ _ e => by cases e)).trans HDR.out.symm)
    ·
     exact (Below.heap_setCell _ _ _ _ (by show W0.heap.size + 1 ≠ wi.heap.size; omega)).trans ((HNM.out.2 _ _ HLR.out (fun _ _ e => by cases e)).trans HLR.out.symm)
end Go.Proofs.YtopijobdblfhoaaGreat.Si
