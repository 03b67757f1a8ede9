import Derived.Test.YtopijobdblfhoaaGreatVTuskChainsRz
import Derived.ScopeJumps
import Derived.WalkMore
set_option linter.unusedVariables false
set_option linter.unusedSimpArgs false
/- Trimmed by a program. By an AI agent. -/
section
namespace Go.Proofs.YtopijobdblfhoaaGreat.Sa
open Go.Proofs.YtopijobdblfhoaaGreat.Sm
open Go.RowKit Go.Proofs.YtopijobdblfhoaaGreatW.PrintWords Go.Proofs.YtopijobdblfhoaaGreatW.PrintLast Go.Proofs.YtopijobdblfhoaaGreatW.PrintMore

theorem addp (b off i : Nat) : (⟨b, off, none⟩ : Addr).add i = ⟨b, off + i, none⟩ := by
 unfold Addr.add; split <;> simp_all
def dg : Nat → Nat → List Int
 | 0, _ => []
 | k + 1, v => ((v / 256 ^ k % 256 : Nat) : Int) :: dg k v
def nl : Nat → Nat → Nat
 | 0, _ => 0
 | f + 1, v => if v = 0 then 0 else nl f (v / 256) + 1
def numI (v : Nat) : List Int := ((nl 8 v : Nat) : Int) :: dg (nl 8 v) v
def numB (v : Nat) : ByteArray := strOfNums (numI v)
theorem Qhc (k v : Nat) : (dg k v).length = k := by
 induction k with
 | zero => rfl
 | succ k ih => simp only [dg, List.length_cons, ih]
theorem nl_le (f v : Nat) : nl f v ≤ f := by
 induction f generalizing v with
 | zero => exact Nat.le_refl _
 | succ f ih =>
  unfold nl; split
  ·
   omega
  ·
   have := ih (v / 256); omega
theorem nl_zero (f : Nat) : nl f 0 = 0 := by cases f <;> simp [nl]
theorem nl_succ {v : Nat} (f : Nat) (h : v ≠ 0) : nl (f + 1) v = nl f (v / 256) + 1 := by simp [nl, h]
theorem v_lt {v k : Nat} (hv : v < 18446744073709551616) (h : v / 256 ^ k ≠ 0) : k < 8 := by
 apply Decidable.byContradiction; intro hk; apply h; apply Nat.div_eq_of_lt; refine Nat.lt_of_lt_of_le hv ?_; have h1 : (256 : Nat) ^ 8 ≤ 256 ^ k := Nat.pow_le_pow_right (by decide) (by omega); exact Nat.le_trans (by decide) h1
end Go.Proofs.YtopijobdblfhoaaGreat.Sa
end
section
namespace Go.Proofs.YtopijobdblfhoaaGreat.Sa
open Go.Proofs.YtopijobdblfhoaaGreat.Sm
open Go.RowKit Go.Proofs.YtopijobdblfhoaaGreatW.PrintWords Go.Proofs.YtopijobdblfhoaaGreatW.PrintLast Go.Proofs.YtopijobdblfhoaaGreatW.PrintMore

theorem Ql6 (v : Nat) : (numB v).size = nl 8 v + 1 := by
 unfold numB numI; rw [strOfNums_size, List.length_cons, Qhc]
theorem Qio (v : Nat) : (numB v).size ≤ 9 := by rw [Ql6]; have := nl_le 8 v; omega
def textB (t : ByteArray) : ByteArray := numB t.size ++ t
theorem Qjt (t : ByteArray) : (textB t).size ≤ t.size + 9 := by
 unfold textB; rw [ByteArray.size_append]; have := Qio t.size; omega
def Qju : List ByteArray → List UInt8
 | [] => []
 | t :: l => (textB t).data.toList ++ Qju l
def rowB (l : List ByteArray) : ByteArray := ⟨((numB l.length).data.toList ++ Qju l).toArray⟩
def sizes : List ByteArray → Nat
 | [] => 0
 | t :: l => t.size + 9 + sizes l
theorem Qi1 (l : List ByteArray) : (Qju l).length ≤ sizes l := by
 induction l with
 | nil => exact Nat.le_refl _
 | cons t l ih =>
  simp only [Qju, sizes, List.length_append]; have := Qjt t; have : (textB t).data.toList.length = (textB t).size := by rw [Array.length_toList]; rfl
  omega
theorem Qjf (l m : List ByteArray) : Qju (l ++ m) = Qju l ++ Qju m := by
 induction l with
 | nil => rfl
 | cons t l ih => simp only [List.cons_append, Qju, ih, List.append_assoc]
theorem Qnf (l : List ByteArray) (k : Nat) (h : k < l.length) : Qju (l.take (k + 1)) = Qju (l.take k) ++ (textB (l.getD k ByteArray.empty)).data.toList := by
 rw [List.take_succ_eq_append_getElem h, Qjf]; simp [Qju, List.getD_eq_getElem?_getD, List.getElem?_eq_getElem h]
theorem Qed (l m : List ByteArray) : sizes (l ++ m) = sizes l + sizes m := by
 induction l with
 | nil => simp [sizes]
 | cons t l ih => simp only [List.cons_append, sizes, ih]; omega
theorem Qlg (l : List ByteArray) (k : Nat) : sizes (l.take k) ≤ sizes l := by
 have := Qed (l.take k) (l.drop k); rw [List.take_append_drop] at this; omega
theorem Qnp (l : List ByteArray) (k : Nat) (h : k < l.length) : sizes (l.take k) + (l.getD k ByteArray.empty).size + 9 ≤ sizes l := by
 have h1 := Qlg l (k + 1); rw [List.take_succ_eq_append_getElem h, Qed] at h1; simp only [sizes] at h1; rw [List.getD_eq_getElem?_getD, List.getElem?_eq_getElem h]; simp only [Option.getD_some]; omega
theorem meas {n kk : Nat} (hlt : kk < n) (hw : wrap64 ((kk : Int) + 1) = (kk : Int) + 1) : n - (intOf (Value.int .i64 (wrap64 ((kk : Int) + 1)))).toNat < n - (intOf (Value.int .i64 (kk : Int))).toNat := by
 rw [hw]; show n - ((kk : Int) + 1).toNat < n - (kk : Int).toNat
 omega
end Go.Proofs.YtopijobdblfhoaaGreat.Sa
end
section
namespace Go.Proofs.YtopijobdblfhoaaGreat.Sa
open Go.Proofs.YtopijobdblfhoaaGreat.Sm
open Go.RowKit Go.Proofs.YtopijobdblfhoaaGreatW.PrintWords Go.Proofs.YtopijobdblfhoaaGreatW.PrintLast Go.Proofs.YtopijobdblfhoaaGreatW.PrintMore

theorem Qhk (a b : List Int) : strOfNums a ++ strOfNums b = strOfNums (a ++ b) := by
 apply ByteArray.ext; apply Array.ext'; rw [ByteArray.data_append, Array.toList_append]; simp [strOfNums]
theorem one_byte (w : World) (x : Int) : (convert 124 9 (.slice (some ⟨w.heap.size, 0, none⟩) 1 1)).run Tryz.prog (w.alloc (.cells #[.int .u8 x] 5)) = .ok (.string (strOfNums [x])) (w.alloc (.cells #[.int .u8 x] 5)) := by
 have hn : (w.alloc (.cells #[.int .u8 x] 5)).heap[w.heap.size]? = some (.cells #[.int .u8 x] 5 (0, 0)) := Qml _ _ rfl
 have hrd : Qaw (w.alloc (.cells #[.int .u8 x] 5)) .u8 (some ⟨w.heap.size, 0, none⟩) 1 [x] := by
  refine ⟨rfl, by omega, fun _ => ⟨_, rfl, fun i hi => ?_⟩⟩; obtain rfl : i = 0 := by omega
  rw [addp]; exact (Qaa hn 0).trans rfl
 exact Qcr (P := Tryz.prog) (src := 124) (dst := 9) (c := 1) Tryz.underlying124 Tryz.underlying5 Tryz.underlying9 hrd
theorem Qh9 {V : Nat} (h : 0 < V) : (intOf (Value.int .u64 ((V : Int) / 256))).toNat < (intOf (Value.int .u64 (V : Int))).toNat := by
 show ((V : Int) / 256).toNat < (V : Int).toNat
 omega
set_option maxHeartbeats 8000000 in
set_option maxRecDepth 100000 in
theorem rnum_c (v : Nat) (hv : v < 18446744073709551616) (w : World) :
  Calls Tryz.prog 86 #[.int .u64 (v : Int)] w fun e w' => e = .returned (.string (numB v)) ∧ Below w.heap.size w w' := by
 have HV := Lib.hid hv; clear hv; go_enter Tryz.func86, Tryz.ntmps86
 go_wp2_with fail
 go_loopw [0, 3] (fun nv sv wr => ∃ k V : Nat, k ≤ 8 ∧ V = v / 256 ^ k ∧ nv = .int .u64 (V : Int) ∧ sv = .string (strOfNums (dg k v)) ∧ nl 8 v = k + nl (8 - k) V ∧ Hid (Below w.heap.size w wr)) (fun nv _ _ => (intOf nv).toNat)
 case atStart => exact ⟨0, v, by omega, by simp, rfl, rfl, by simp, Lib.hid (Below.refl _ _)⟩
 case round =>
  obtain ⟨k, V, hk, eV, rfl, rfl, fin, HB⟩ := hrel; have hs := strOfNums_size (dg k v); rw [Qhc] at hs; obtain ⟨S, eS⟩ : ∃ S, S = strOfNums (dg k v) := ⟨_, rfl⟩; rw [← eS] at hs ⊢
  by_cases h0 : V = 0
  ·
   subst h0; rw [nl_zero, Nat.add_zero] at fin; have cv := one_byte wr (k : Int); have hov : ¬ 9223372036854775807 < (strOfNums [(k : Int)]).size + S.size := by rw [strOfNums_size, hs]; simp; omega
   have hN : strOfNums [(k : Int)] ++ S = numB v := by rw [eS, Qhk]; unfold numB numI; rw [fin]; rfl
   have HN := Lib.hid hN; have HB2 := Lib.hid (HB.out.alloc HB.out.size (.cells #[.int .u8 (k : Int)] 5)); have hw : IntKind.u8.wrap (k : Int) = (k : Int) := Go.IntWalk.u8_in _ (by omega); generalize strOfNums [(k : Int)] = X at cv hov HN; clear fin eS eV hN HB
   go_wp2_with fail
   go_ret; exact ⟨by rw [← HN.out]; rfl, HB2.out⟩
  ·
   have hk8 : k < 8 := v_lt HV.out (by rw [← eV]; exact h0); have hpos : 0 < V := by omega
   have hVv : V ≤ v := by rw [eV]; exact Nat.div_le_self _ _
   have hq : IntKind.u64.wrap ((V : Int) / 256) = ((V / 256 : Nat) : Int) := by have := HV.out; rw [IntKind.wrap_u64]; omega
   have cv := one_byte wr ((V : Int) % 256); have hov : ¬ 9223372036854775807 < (strOfNums [(V : Int) % 256]).size + S.size := by rw [strOfNums_size, hs]; simp; omega
   have hN : strOfNums [(V : Int) % 256] ++ S = strOfNums (dg (k + 1) v) := by
    rw [eS, Qhk, dg, ← eV]; rfl
   have hfin : nl 8 v = (k + 1) + nl (8 - (k + 1)) (V / 256) := by
    have e : 8 - k = (8 - (k + 1)) + 1 := by omega
    rw [e, nl_succ _ h0] at fin; rw [fin]; omega
   have HN := Lib.hid hN; have HF := Lib.hid hfin; have HE := Lib.hid eV; have HP := Lib.hid hpos; have HB2 := Lib.hid (HB.out.alloc HB.out.size (.cells #[.int .u8 ((V : Int) % 256)] 5)); generalize strOfNums [(V : Int) % 256] = X at cv hov HN; clear fin eS eV hN HB h0 hfin
   go_wp2_with fail
   go_roundw
   case rel =>
    refine ⟨k + 1, V / 256, by omega, ?_, ?_, ?_, HF.out, HB2⟩
    ·
     rw [HE.out, Nat.pow_succ, ← Nat.div_div_eq_div_mul]
    ·
     have e1 : ((V / 256 : Nat) : Int) = (V : Int) / 256 := by omega
     rw [e1]
    ·
     rw [← HN.out]
   case measure => exact Qh9 HP.out
set_option maxHeartbeats 8000000 in
set_option maxRecDepth 100000 in
theorem rtext_c (t : ByteArray) (ht : t.size ≤ 140737488351232) (w : World) :
  Calls Tryz.prog 85 #[.string t] w fun e w' => e = .returned (.string (textB t)) ∧ Below w.heap.size w w' := by
 have hu : IntKind.u64.wrap (t.size : Int) = (t.size : Int) := by rw [IntKind.wrap_u64]; omega
 have n1 := Qio t.size; have hN := Lib.hid (fun w => rnum_c t.size (by omega) w); have hT := Lib.hid (show numB t.size ++ t = textB t from rfl); obtain ⟨X, eX⟩ : ∃ X, X = numB t.size := ⟨_, rfl⟩; rw [← eX] at n1 hT hN; clear eX; go_enter Tryz.func85, Tryz.ntmps85
 go_wp2_with fail
 refine (hN.out _).mono ?_; rintro e w1 ⟨rfl, hb⟩
 go_wp2_with fail
 go_ret; exact ⟨by rw [← hT.out]; rfl, hb⟩
set_option maxHeartbeats 8000000 in
set_option maxRecDepth 100000 in
theorem rrow_c (A : Option Addr) (c : Nat) (l : List ByteArray) (w : World) (hr : Kd.C Kd.string w A l.length l) (hsz : sizes l + 9 ≤ 140737488351232) :
  Calls Tryz.prog 90 #[.slice A l.length c] w fun e w' => e = .returned (.string (rowB l)) ∧ Below w.heap.size w w' := by
 have hl9 : ∀ l : List ByteArray, 9 * l.length ≤ sizes l := by
  intro l
  induction l with
  | nil => exact Nat.le_refl _
  | cons t l ih => simp only [sizes, List.length_cons]; omega
 have hlen := hl9 l; clear hl9; have hu : IntKind.u64.wrap (l.length : Int) = (l.length : Int) := by rw [IntKind.wrap_u64]; omega
 have hN := Lib.hid (fun w => rnum_c l.length (by omega) w); have n1 := Qio l.length; have HR := Lib.hid hr; have HSZ := Lib.hid hsz; have HLN := Lib.hid hlen; have HN1 := Lib.hid n1
 have kb := fun W => Qez (P := Tryz.prog) 9 124 5 Tryz.underlying9 Tryz.underlying124 Tryz.underlying5 (numB l.length) W
 clear hr hsz n1; go_enter Tryz.func90, Tryz.ntmps90
 go_wp2_with fail
 refine (hN.out _).mono ?_; rintro e w1 ⟨rfl, hb1⟩; have HB1 := Lib.hid hb1; clear hb1
 go_wp2_with fail
 have HBB := Lib.hid (BB.of_bytes (base := w.heap.size) (w := w1) (numB l.length) HB1.out.size (by have := HN1.out; omega)); have HB2 := Lib.hid (Qe9 HB1.out HB1.out.size 5 (numB l.length)); clear kb HB1 hlen
 go_loopw [3, 4] (fun v i wr => ∃ k : Nat, k ≤ l.length ∧ i = .int .i64 k ∧ Hid (BB w.heap.size wr v (((numB l.length).data.toList ++ Qju (l.take k)).map fun b : UInt8 => ((b.toNat : Nat) : Int))) ∧ Hid (Below w.heap.size w wr)) (fun _ i _ => l.length - (intOf i).toNat)
 case atStart =>
  refine ⟨0, Nat.zero_le _, rfl, Lib.hid ?_, HB2⟩; rw [List.take_zero]; show BB _ _ _ ((_ ++ []).map _); rw [List.append_nil]; exact HBB.out
 case round =>
  clear HBB HB2; obtain ⟨k, hk, rfl, HI, HB⟩ := hrel
  by_cases hlt : k < l.length
  ·
   have hC := Kd.C_below HR.out HB.out; obtain ⟨ad, cs, rfl, hcl, hK, hcell⟩ := Kd.C_get hC ByteArray.empty (k : Int) (by omega) (by omega); obtain ⟨x, ex⟩ : ∃ x, x = l.getD k ByteArray.empty := ⟨_, rfl⟩; have hK' : cs = [.string x] := by rw [ex]; exact hK
   subst hK'
   have c0 : wr.cell? (ad.add k) = some (.string x) := by
    have h := hcell 0 _ rfl
    have e : ((k : Int).toNat * Kd.string.sz + 0) = k := by
     show (k : Int).toNat * 1 + 0 = k; omega
    rw [e] at h; exact h
   have hw : wrap64 ((k : Int) + 1) = (k : Int) + 1 := Go.IntWalk.wrap64_in _ (by have := HLN.out; have := HSZ.out; omega)
   have r0 : ∀ w' : World, (Instr.indexAt 26 (.slice (some ad) l.length c) (.int .i64 (k : Int))).run Tryz.prog w' = .ok (.pointer (some (ad.add k))) w' := fun w' => by
    rw [run_indexAt_slice w' 26 ad l.length c .i64 k (by kernel_rfl), if_pos ⟨by omega, by omega⟩]; have hs : (sizeOf (Tryz.prog.elem 26)).run Tryz.prog w' = .ok 1 w' := by kernel_rfl
    rw [hs]; simp [Result.andThen]
   have hz := Qnp l k hlt; rw [← ex] at hz; have HX := Lib.hid (fun w => rtext_c x (by have := HSZ.out; omega) w); have HT := Lib.hid (Qnf l k hlt); rw [← ex] at HT
   have hbnd : (((numB l.length).data.toList ++ Qju (l.take k)).map fun b : UInt8 => ((b.toNat : Nat) : Int)).length + (textB x).size ≤ 140737488355328 := by
    have h1 := Qi1 (l.take k); have h2 := Qjt x; have h3 := HN1.out; have h4 := HSZ.out; have h5 : (numB l.length).data.toList.length = (numB l.length).size := by rw [Array.length_toList]; rfl
    rw [List.length_map, List.length_append]; omega
   have HBD := Lib.hid hbnd; clear hC hcl hK hcell hz hbnd ex
   go_wp2_with fail
   refine (HX.out _).mono ?_; rintro e w3 ⟨rfl, hb3⟩; have HI3 := Lib.hid (HI.out.below hb3); have HB3 := Lib.hid (Qa0 HB.out hb3); clear hb3 HI HB c0
   go_wp2_with (at_builtin; refine Qg6 (base := w.heap.size) (textB x) rfl _ _ rfl rfl rfl HI3.out HBD.out HB3.out.size ?_)
   intro v4 w4 hbb hg; have HI4 := Lib.hid hbb; have HB4 := Lib.hid (HB3.out.grown hg HB3.out.size (fun k hk => HI3.out.base k hk)); clear hbb hg HI3 HB3; go_wp2
   go_roundw
   case rel =>
    refine ⟨k + 1, by omega, by go_num, Lib.hid ?_, HB4⟩; have h4 := HI4.out; rw [HT.out]; simp only [List.map_append, List.append_assoc] at h4 ⊢; exact h4
   case measure => exact meas hlt hw
  ·
   obtain rfl : k = l.length := by omega
   have HT : l.take l.length = l := List.take_of_length_le (Nat.le_refl _); rw [HT] at HI; clear HT; have cv := HI.out.str; rw [Qdq] at cv; have HS := Lib.hid (show (⟨((numB l.length).data.toList ++ Qju l).toArray⟩ : ByteArray) = rowB l from rfl); rw [HS.out] at cv; clear HS HI
   go_wp2_with fail
   go_ret; exact ⟨rfl, HB.out⟩
end Go.Proofs.YtopijobdblfhoaaGreat.Sa
end
