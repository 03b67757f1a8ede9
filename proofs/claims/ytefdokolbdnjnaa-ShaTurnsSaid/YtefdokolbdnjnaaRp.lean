import Derived.Test.YtefdokolbdnjnaaBb
import Derived.Test.YtefdokolbdnjnaaPd
/-
  The reference's Pad walked. By an AI agent.
-/
namespace Go.Proofs.Ytefdokolbdnjnaa.Sa
open Go.Proofs.Ytefdokolbdnjnaa.Sm
open Go.RowKit Go.Proofs.YtefdokolbdnjnaaW.PrintWords Go.Proofs.YtefdokolbdnjnaaW.PrintLast Go.Proofs.YtefdokolbdnjnaaW.PrintMore
set_option linter.unusedVariables false
set_option linter.unusedSimpArgs false

def lenOf : Value → Nat
  | .slice _ n _ => n
  | _ => 0
theorem lenOf_mk (A : Option Addr) (n c : Nat) : lenOf (.slice A n c) = n := rfl
def tT (n k : Nat) : List Int := (List.range k).map fun i => ((n * 8 / 256 ^ (k - 1 - i) % 256 : Nat) : Int)
theorem tT_succ (n k : Nat) : tT n (k + 1) = [((n * 8 / 256 ^ k % 256 : Nat) : Int)] ++ tT n k := by
  unfold tT
  rw [List.range_succ_eq_map]
  simp only [List.map_cons, List.map_map, Nat.add_sub_cancel, Nat.sub_zero, List.singleton_append]
  congr 1
  apply List.map_congr_left
  intro i hi
  have e : k - (i + 1) = k - 1 - i := by omega
  simp only [Function.comp, Nat.succ_eq_add_one, e]
theorem tT_length (n k : Nat) : (tT n k).length = k := by simp [tT]
theorem tT_bytes (n : Nat) : tT n 8 = (lenBytes n).map fun b => ((b.toNat : Nat) : Int) := by
  unfold tT lenBytes
  rw [List.map_map]
  apply List.map_congr_left
  intro i _
  simp only [Function.comp, UInt8.toNat_ofNat']
def padI (s : ByteArray) (j : Nat) : List Int := bytesOf s ++ [128] ++ List.replicate j 0
theorem padI_length (s : ByteArray) (j : Nat) : (padI s j).length = s.size + 1 + j := by simp [padI, bytesOf_length]; omega
theorem padI_succ (s : ByteArray) (j : Nat) : padI s j ++ [0] = padI s (j + 1) := by
  unfold padI
  rw [List.replicate_succ', List.append_assoc]
theorem strOf_size (l : List Int) : (strOfNums l).size = l.length := by
  show (l.map _).toArray.size = _
  simp
theorem pad_str (s : ByteArray) : strOfNums (padI s ((119 - s.size % 64) % 64)) ++ strOfNums (tT s.size 8) = padB s := by
  have e : padI s ((119 - s.size % 64) % 64) = (s.data.toList ++ 128 :: List.replicate ((119 - s.size % 64) % 64) 0).map fun b : UInt8 => ((b.toNat : Nat) : Int) := by
    unfold padI bytesOf
    simp
  rw [e, tT_bytes, str_bytes, str_bytes]
  unfold padB padL
  apply ByteArray.ext
  simp

set_option maxHeartbeats 8000000 in
set_option maxRecDepth 100000 in
theorem rpad_c (s : ByteArray) (hs : s.size ≤ 140737488351232) (w : World) :
    Calls Try.prog 30 #[.string s] w fun e w' => e = .returned (.string (padB s)) ∧ Below w.heap.size w w' := by
  have kb := fun W => print_bytes (P := Try.prog) 9 93 5 Try.underlying9 Try.underlying93 Try.underlying5 s W
  obtain ⟨z, hz⟩ : ∃ z, z = (119 - s.size % 64) % 64 := ⟨_, rfl⟩
  have HZ := Lib.hid hz
  have hz63 : z ≤ 63 := by omega
  clear hz
  go_enter Try.func30, Try.ntmps30
  go_wp2_with (at_builtin; refine wpList_bb_one (base := w.heap.size) rfl _ _ rfl rfl rfl (BB.of_bytes s (Nat.le_refl _) (by omega)) ?h1 ?h2 ?_)
  case h1 => rw [bytesOf_length]; omega
  case h2 => rw [Lib.bytesWorld_size]; omega
  intro v1 w1 hbb hg
  have HBB := Lib.hid hbb
  have HG := Lib.hid hg
  have HB1 := Lib.hid (show Below w.heap.size w w1 from (bytes_below (Below.refl w.heap.size w) (Nat.le_refl _) 5 s).grown hg (by rw [Lib.bytesWorld_size]; omega) (fun k hk => by simp only [Value.ownBlock, Option.some.injEq] at hk; omega))
  clear hbb hg kb
  go_wp2_with fail
  go_loopw [3] (fun v wr => ∃ (j : Nat) (A : Option Addr) (c : Nat), j ≤ z ∧ v = .slice A (s.size + 1 + j) c ∧ Hid (BB w.heap.size wr (.slice A (s.size + 1 + j) c) (padI s j)) ∧ Hid (Below w.heap.size w wr)) (fun v _ => s.size + 1 + z - lenOf v)
  case atStart =>
    obtain ⟨A, c, hv, _⟩ := HBB.out.reads
    have e : (bytesOf s ++ [128]).length = s.size + 1 + 0 := by simp [bytesOf_length]
    rw [e] at hv
    refine ⟨0, A, c, Nat.zero_le _, hv, Lib.hid ?_, HB1⟩
    rw [← hv]
    have := HBB.out
    simpa [padI] using this
  case round =>
    obtain ⟨j, A, c, hj, rfl, HBB2, HB⟩ := hrel
    clear HBB HG HB1
    by_cases hlt : j < z
    · have hne : (((s.size : Int) + 1 + (j : Int)) % 64 != 56) = true := by have := HZ.out; rw [bne_iff_ne]; omega
      go_wp2_with (at_builtin; refine wpList_bb_one (base := w.heap.size) rfl _ _ rfl rfl rfl HBB2.out ?h3 ?h4 ?_)
      case h3 => rw [padI_length]; omega
      case h4 => exact HB.out.size
      intro v2 w2 hbb hg
      rw [padI_succ] at hbb
      obtain ⟨A2, c2, hv, _⟩ := hbb.reads
      rw [padI_length] at hv
      have HB2 := Lib.hid (HB.out.grown hg HB.out.size (fun k hk => HBB2.out.base k hk))
      have HBB3 := Lib.hid hbb
      clear hbb hg HBB2 HB
      have HV := Lib.hid hv
      clear hv
      go_wp2
      go_roundw
      case rel => exact ⟨j + 1, A2, c2, by omega, HV.out, by rw [← HV.out]; exact HBB3, HB2⟩
      case measure => rw [HV.out]; simp only [lenOf_mk, Array.getD_eq_getD_getElem?, List.getElem?_toArray, List.getElem?_cons_succ, List.getElem?_cons_zero, Option.getD_some]; omega
    · obtain rfl : j = z := by omega
      have hne : (((s.size : Int) + 1 + (j : Int)) % 64 != 56) = false := by have := HZ.out; rw [bne_eq_false_iff_eq]; omega
      clear hlt hj
      obtain ⟨w3, rfl⟩ : ∃ w3 : World, w3 = wr := ⟨_, rfl⟩
      go_wp2_with fail
      clear hne
      go_loopw [4, 5, 6] (fun nv tv i wr => ∃ k : Nat, k ≤ 8 ∧ i = .int .i64 k ∧ nv = .int .u64 ((s.size * 8 / 256 ^ k : Nat) : Int) ∧ Hid (wr.ownsRow w.heap.size 5 1 tv (tT s.size k).length (nums .u8 (tT s.size k))) ∧ Hid (BB w.heap.size wr (.slice A (s.size + 1 + j) c) (padI s j)) ∧ Hid (Below w.heap.size w wr)) (fun _ _ i _ => 8 - (intOf i).toNat)
      case atStart => exact ⟨0, by omega, rfl, by simp, Lib.hid (own_nil _ _ _ _), HBB2, HB⟩
      case round =>
        clear HBB2 HB
        obtain ⟨k, hk, rfl, rfl, HO, HBB2, HB⟩ := hrel
        by_cases hlt : k < 8
        · have hx : s.size * 8 / 256 ^ k < 18446744073709551616 := Nat.lt_of_le_of_lt (Nat.div_le_self _ _) (by omega)
          have hd : s.size * 8 / 256 ^ (k + 1) = s.size * 8 / 256 ^ k / 256 := by rw [Nat.pow_succ, Nat.div_div_eq_div_mul]
          obtain ⟨X, hX⟩ : ∃ X, X = s.size * 8 / 256 ^ k := ⟨_, rfl⟩
          rw [← hX] at hx hd ⊢
          have hts := tT_succ s.size k
          rw [← hX] at hts
          have HD := Lib.hid hd
          have HT := Lib.hid hts
          clear hX hd hts
          obtain ⟨At, ct, htv⟩ := own_slice HO.out
          rw [htv] at HO ⊢
          have HR := Lib.hid ((own_reads' HO.out).allocS (.cells #[.int .u8 ((X : Int) % 256)] 5))
          have HO1 := Lib.hid (own_lit wr w.heap.size 5 .u8 [(X : Int) % 256] HB.out.size (by show 1 ≤ _; decide))
          have HB1 := Lib.hid (HB.out.alloc HB.out.size (.cells #[.int .u8 ((X : Int) % 256)] 5))
          have HL := Lib.hid (tT_length s.size k)
          clear htv
          go_wp2_with (at_builtin; refine print_append_row (w0 := w) w.heap.size rfl (.tmp 30) (.tmp 31) 93 5 .u8 1 rfl Try.underlying93 info_u8 (by decide) (.slice (some ⟨wr.heap.size, 0, none⟩) 1 1) [(X : Int) % 256] (tT s.size k) At (tT s.size k).length ct rfl rfl HO1.out HR.out HB1.out ?h5 ?h6 ?_)
          case h5 => have := HB.out.size; simp; omega
          case h6 => rw [HL.out]; simp; omega
          intro v2 w2 hown hbel hg _
          have HBB3 := Lib.hid ((HBB2.out.alloc (.cells #[.int .u8 ((X : Int) % 256)] 5)).other hg (by
            obtain ⟨g, cap, he, _, hlt', _⟩ := HBB2.out
            rw [he]
            simp only [Value.ownBlock, ne_eq, Option.some.injEq]
            omega))
          have HO2 := Lib.hid hown
          have HB2 := Lib.hid hbel
          clear hown hbel hg HO1 HR HB1 HO HBB2 HB
          go_wp2_with fail
          go_roundw
          case rel =>
            have e : [(X : Int) % 256] ++ tT s.size k = tT s.size (k + 1) := by rw [HT.out]; simp
            have HO3 : w2.ownsRow w.heap.size 5 1 v2 (tT s.size (k + 1)).length (nums .u8 (tT s.size (k + 1))) := by rw [← e]; exact HO2.out
            exact ⟨k + 1, by omega, by go_num, by rw [HD.out]; go_num, Lib.hid HO3, HBB3, HB2⟩
          case measure => simp [intOf]; omega
        · obtain rfl : k = 8 := by omega
          have h1 := HBB2.out.str
          have h2 := own_string (P := Try.prog) (src := 93) (dst := 9) Try.underlying93 Try.underlying5 Try.underlying9 HO.out
          have l1 : (strOfNums (padI s j)).size = s.size + 1 + j := by rw [strOf_size, padI_length]
          have l2 : (strOfNums (tT s.size 8)).size = 8 := by rw [strOf_size, tT_length]
          obtain ⟨S1, e1⟩ : ∃ S, S = strOfNums (padI s j) := ⟨_, rfl⟩
          obtain ⟨S2, e2⟩ : ∃ S, S = strOfNums (tT s.size 8) := ⟨_, rfl⟩
          rw [← e1] at h1 l1
          rw [← e2] at h2 l2
          have E1 := Lib.hid e1
          have E2 := Lib.hid e2
          have hov : ¬ 9223372036854775807 < S1.size + S2.size := by omega
          clear e1 e2 l1 l2 hlt hk
          go_wp2_with fail
          go_ret
          refine ⟨?_, HB.out⟩
          show Ending.returned (.string (S1 ++ S2)) = _
          rw [E1.out, E2.out, HZ.out, pad_str]
end Go.Proofs.Ytefdokolbdnjnaa.Sa
