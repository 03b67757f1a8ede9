import Derived.Test.YtdppmkcahfjceaaVCoinFitsDz
import Derived.Test.YtdppmkcahfjceaaVCoinFitsKt
import Derived.Lib.EndianBits
import Derived.Lib.ConvBytes
import Derived.Laws.Cover3
/- What this claim names of the words that its proofs lean on: gathered out of them by a program of this session (shake.py). By an AI agent. -/
/-
  coin.number and coin.Deal walked. By an AI agent.
-/
namespace Go.Proofs.Ytdppmkcahfjceaa.Sa
open Go.Proofs.Ytdppmkcahfjceaa.Sm
open Go.RowKit Go.Proofs.YtdppmkcahfjceaaW.PrintWords Go.Proofs.YtdppmkcahfjceaaW.PrintLast Go.Proofs.YtdppmkcahfjceaaW.PrintMore
set_option linter.unusedVariables false
set_option linter.unusedSimpArgs false

theorem be4 (b0 b1 b2 b3 : Nat) (h0 : b0 < 256) (h1 : b1 < 256) (h2 : b2 < 256) (h3 : b3 < 256) :
    wrap64 ((bits BinOp.or IntKind.u32 (bits BinOp.or IntKind.u32 (bits BinOp.or IntKind.u32 ((b0 : Int) * 16777216) ((b1 : Int) * 65536)) ((b2 : Int) * 256)) (b3 : Int)).tmod 10007) = ((((b0 * 256 + b1) * 256 + b2) * 256 + b3) % 10007 : Nat) := by
  rw [bits_join .u32 32 (by decide) wraps_u32 24 ((b0 : Int) * 16777216) ((b1 : Int) * 65536) (by omega) (by omega) (by omega) (by omega) (by omega) (by omega),
    bits_join .u32 32 (by decide) wraps_u32 16 _ ((b2 : Int) * 256) (by omega) (by omega) (by omega) (by omega) (by omega) (by omega),
    bits_join .u32 32 (by decide) wraps_u32 8 _ (b3 : Int) (by omega) (by omega) (by omega) (by omega) (by omega) (by omega)]
  rw [Int.tmod_eq_emod_of_nonneg (by omega), Go.IntWalk.wrap64_in _ (by omega)]
  omega
set_option maxHeartbeats 8000000 in
set_option maxRecDepth 100000 in
theorem number_c (b0 b1 b2 b3 : Nat) (h0 : b0 < 256) (h1 : b1 < 256) (h2 : b2 < 256) (h3 : b3 < 256) (w : World) :
    Calls Try.prog 63 #[.agg #[.int .u8 (b0 : Int), .int .u8 (b1 : Int), .int .u8 (b2 : Int), .int .u8 (b3 : Int)]] w fun e w' => e = .returned (.int .i64 ((((b0 * 256 + b1) * 256 + b2) * 256 + b3) % 10007 : Nat)) ∧ Below w.heap.size w w' := by
  have E := Lib.hid (be4 b0 b1 b2 b3 h0 h1 h2 h3)
  go_enter Try.func63, Try.ntmps63
  go_upto_region 2 with (first | (refine wpList_load_row rfl 101 _ rfl w.heap.size rfl 101 _ (0, 0) _ (new_ _ _ rfl) Try.underlying101 rfl (by kernel_rfl) ?_) | (refine Go.wpList_store_row rfl 101 _ _ rfl (w.heap.size + 1) _ rfl rfl 101 _ (new_ _ _ (by simp)) (by kernel_rfl) rfl (by simp [Value.oneCell']) ?_))
  have C1 : Aside0 ((((w.alloc (.cells #[.int .u8 (b0 : Int), .int .u8 (b1 : Int), .int .u8 (b2 : Int), .int .u8 (b3 : Int)] 101)).alloc (.cells #[.int .u8 0, .int .u8 0, .int .u8 0, .int .u8 0] 101)).setRow (w.heap.size + 1) #[.int .u8 (b0 : Int), .int .u8 (b1 : Int), .int .u8 (b2 : Int), .int .u8 (b3 : Int)]).heap[w.heap.size + 1]? = some (.cells #[.int .u8 (b0 : Int), .int .u8 (b1 : Int), .int .u8 (b2 : Int), .int .u8 (b3 : Int)] 101 (0, 0))) := ⟨setRow_heap _ _ _ _ _ _ (new_ _ _ (by simp))⟩
  have HB : Aside0 (Below w.heap.size w (((w.alloc (.cells #[.int .u8 (b0 : Int), .int .u8 (b1 : Int), .int .u8 (b2 : Int), .int .u8 (b3 : Int)] 101)).alloc (.cells #[.int .u8 0, .int .u8 0, .int .u8 0, .int .u8 0] 101)).setRow (w.heap.size + 1) #[.int .u8 (b0 : Int), .int .u8 (b1 : Int), .int .u8 (b2 : Int), .int .u8 (b3 : Int)])) := ⟨below_setRow (((Below.refl w.heap.size w).alloc (Nat.le_refl _) _).alloc (by simp) _) (by omega) _⟩
  generalize World.setRow _ _ _ = w1 at C1 HB ⊢
  have c0 := (blk_cell C1.out 0).trans rfl
  have c1 := (blk_cell C1.out 1).trans rfl
  have c2 := (blk_cell C1.out 2).trans rfl
  have c3 := (blk_cell C1.out 3).trans rfl
  go_wp2
  go_ret
  exact ⟨congrArg (fun x => Ending.returned (.int .i64 x)) E.out, HB.out⟩
def nb (d : ByteArray) (i : Nat) : Nat := (d.data.toList.getD i 0).toNat
theorem nb_lt (d : ByteArray) (i : Nat) : nb d i < 256 := UInt8.toNat_lt _
def num4 (d : ByteArray) (i : Nat) : Int := ((((nb d i * 256 + nb d (i + 1)) * 256 + nb d (i + 2)) * 256 + nb d (i + 3)) % 10007 : Nat)
def dealD (tape : ByteArray) (wv k : Nat) : ByteArray := sumB ((((⟨#[99]⟩ : ByteArray) ++ textB tape) ++ numB wv) ++ numB k)
def dealE (tape : ByteArray) (wv k : Nat) : Int × Int := (num4 (dealD tape wv k) 0, num4 (dealD tape wv k) 4)
def dealL (tape : ByteArray) (wv m : Nat) : List (Int × Int) := (List.range m).map (dealE tape wv)
theorem dealL_succ (tape : ByteArray) (wv m : Nat) : dealL tape wv (m + 1) = dealL tape wv m ++ [dealE tape wv m] := by simp [dealL, List.range_succ]
theorem dealL_length (tape : ByteArray) (wv m : Nat) : (dealL tape wv m).length = m := by simp [dealL]
abbrev kE : Kd (Int × Int) := Kd.pair (Kd.int .i64) (Kd.int .i64)
theorem dealD_size (tape : ByteArray) (wv k : Nat) : (dealD tape wv k).size = 32 := sumB_size _
theorem dealS_size (tape : ByteArray) (wv k : Nat) : ((((⟨#[99]⟩ : ByteArray) ++ textB tape) ++ numB wv) ++ numB k).size ≤ tape.size + 28 := by
  have h1 := textB_le tape
  have h2 := numB_le wv
  have h3 := numB_le k
  have h4 : (⟨#[99]⟩ : ByteArray).size = 1 := rfl
  simp only [ByteArray.size_append]
  omega
set_option maxHeartbeats 8000000 in
set_option maxRecDepth 100000 in
theorem deal_yes (tape : ByteArray) (wv : Nat) (n : Int) (m : Nat) (w : World) (ht : tape.size + 28 ≤ 140737488351232) (h1 : 1 ≤ wv) (hwv : wv ≤ 9223372036854775807) (hm : m ≤ 64)
    (kMay : ∀ W, Calls Try.prog 57 #[.int .i64 n] W fun e W' => e = .returned (.bool true) ∧ Drawn0 W W')
    (kWeak : ∀ W, Calls Try.prog 59 #[.int .i64 n] W fun e W' => e = .returned (.int .i64 (m : Int)) ∧ Drawn0 W W') :
    Calls Try.prog 21 #[.string tape, .int .i64 (wv : Int), .int .i64 n] w fun e w' => ∃ v, e = .returned v ∧ Kd.R kE 23 w' w.heap.size (fun _ => True) v (dealL tape wv m) ∧ Below w.heap.size w w' := by
  have HB := Aside0.mk (Below.refl w.heap.size w)
  have KM := Lib.hid kMay
  have KW := Lib.hid kWeak
  have b1 : decide ((wv : Int) < 1) = false := decide_eq_false (by omega)
  have HT := Lib.hid ht
  have H1 := Lib.hid h1
  have HW := Lib.hid hwv
  have HM := Lib.hid hm
  have u1 : IntKind.u64.wrap (wv : Int) = (wv : Int) := u64_wrap_id _ (by omega) (by omega)
  clear kMay kWeak ht h1 hwv hm
  go_enter Try.func21, Try.ntmps21
  go_wp2_with (first | (go_at_call 57; (refine (KM.out _).mono ?_); rintro e w1 ⟨rfl, ⟨nd, rfl⟩⟩; replace HB := Aside0.mk (pw_below_drewN HB.out nd)) | (go_at_call 59; (refine (KW.out _).mono ?_); rintro e w1 ⟨rfl, ⟨nd, rfl⟩⟩))
  clear u1
  go_loopw [7, 19] (fun v i W => ∃ k : Nat, k ≤ m ∧ i = .int .i64 (k : Int) ∧ Aside0 (Kd.R kE 23 W w.heap.size (fun _ => True) v (dealL tape wv k)) ∧ Aside0 (Below w.heap.size w W)) (fun _ i _ => m - (intOf i).toNat)
  case atStart => exact ⟨0, Nat.zero_le _, rfl, ⟨Kd.R_nil _ _ _ _ _⟩, ⟨by rw [← World.drewN_drewN]; exact pw_below_drewN HB.out _⟩⟩
  case round =>
    clear HB
    obtain ⟨k, hk, rfl, HO, HB⟩ := hrel
    by_cases hlt : k < m
    · have hm64 := HM.out
      have hT := HT.out
      have hW := HW.out
      have hE := dealS_size tape wv k
      have hsz := dealD_size tape wv k
      have KT := Lib.hid (text_c tape (by omega))
      have KN1 := Lib.hid (num_c wv (by omega))
      have KN2 := Lib.hid (num_c k (by omega))
      have KS := Lib.hid (fun W => sum_c ((((⟨#[99]⟩ : ByteArray) ++ textB tape) ++ numB wv) ++ numB k) (by omega) W)
      have s1 := textB_le tape
      have s2 := numB_le wv
      have s3 := numB_le k
      have s0 : (⟨#[99]⟩ : ByteArray).size = 1 := rfl
      have q1 : 1 + (textB tape).size ≤ 9223372036854775807 := by omega
      have q2 : ((⟨#[99]⟩ : ByteArray) ++ textB tape).size + (numB wv).size ≤ 9223372036854775807 := by simp only [ByteArray.size_append]; omega
      have q3 : (((⟨#[99]⟩ : ByteArray) ++ textB tape) ++ numB wv).size + (numB k).size ≤ 9223372036854775807 := by simp only [ByteArray.size_append]; omega
      have lt1 : decide ((k : Int) < (m : Int)) = true := decide_eq_true (by omega)
      have u1 : IntKind.u64.wrap (wv : Int) = (wv : Int) := u64_wrap_id _ (by omega) (by omega)
      have u2 : IntKind.u64.wrap (k : Int) = (k : Int) := u64_wrap_id _ (by omega) (by omega)
      have hcv : ∀ W, (convert 9 97 (.string (dealD tape wv k))).run Try.prog W = .ok (.slice (some ⟨W.heap.size, 0, none⟩) (dealD tape wv k).size (grownCap W (dealD tape wv k).size 0 5)) (Lib.bytesWorld W 5 (dealD tape wv k)) := fun W => Lib.run_convert_string_bytes (P := Try.prog) W 9 97 5 _ (u := .string) Try.underlying9 Try.underlying97 Try.underlying5
      rw [show sumB ((((⟨#[99]⟩ : ByteArray) ++ textB tape) ++ numB wv) ++ numB k) = dealD tape wv k from rfl] at KS
      have HSZ := Lib.hid hsz
      clear hm64 hT hW hE hsz s1 s2 s3 s0
      obtain ⟨D, hDk⟩ : ∃ D, D = dealD tape wv k := ⟨_, rfl⟩
      rw [← hDk] at KS hcv HSZ
      have HDk := Lib.hid hDk
      clear hDk
      go_upto_region 8 with (first
        | (go_at_call 61; (refine (KT.out _).mono ?_); rintro e w1 ⟨rfl, hb⟩; replace HO := Aside0.mk (Kd.R_below HO.out hb); replace HB := Aside0.mk (below_step HB.out hb); clear hb)
        | (go_at_call 62; (first | (with_reducible refine (KN1.out _).mono ?_) | (with_reducible refine (KN2.out _).mono ?_)); rintro e w1 ⟨rfl, hb⟩; replace HO := Aside0.mk (Kd.R_below HO.out hb); replace HB := Aside0.mk (below_step HB.out hb); clear hb)
        | (go_at_call 60; (refine (KS.out _).mono ?_); rintro e w1 ⟨rfl, hb⟩; replace HO := Aside0.mk (Kd.R_below HO.out hb); replace HB := Aside0.mk (below_step HB.out hb); clear hb))
      have hD := HSZ.out
      have hcap := grownCap_ge w1 D.size 0 5
      have HC : Aside0 (∀ j, j < 8 → (Lib.bytesWorld w1 5 D).cell? ⟨w1.heap.size, j, none⟩ = some (.int .u8 (nb D j : Int))) := ⟨fun j hj => Lib.bytesWorld_cell w1 5 D j (by omega)⟩
      have hg : Aside0 (w1.heap.size < (Lib.bytesWorld w1 5 D).heap.size) := ⟨by rw [Lib.bytesWorld_size]; omega⟩
      replace HB := Aside0.mk (bytes_below HB.out HB.out.size 5 D)
      replace HO := Aside0.mk (Kd.R_below HO.out (bytes_below (Below.refl w1.heap.size w1) (Nat.le_refl _) 5 D))
      rw [hD] at hcap
      rw [hD]
      generalize grownCap w1 32 0 5 = cc at hcap ⊢
      generalize Lib.bytesWorld w1 5 D = w5 at HC hg HB HO ⊢
      generalize w1.heap.size = g at HC hg ⊢
      clear hcv KS KT KN1 KN2 q1 q2 q3 lt1 u1 u2 hD
      have cap4 : (4 : Int) ≤ (cc : Int) := by omega
      have cap8 : (8 : Int) ≤ (cc : Int) := by omega
      have hat0 : ∀ w, (Instr.arrayAt 101 (.slice (some ⟨g, 0, none⟩) 4 cc)).run Try.prog w = .ok (.pointer (some ⟨g, 0, none⟩)) w := fun w => run_arrayAt w 101 5 4 _ 4 cc Try.underlying101 (by decide)
      have hat4 : ∀ w, (Instr.arrayAt 101 (.slice (some ⟨g, 4, none⟩) 4 (cc - 4))).run Try.prog w = .ok (.pointer (some ⟨g, 4, none⟩)) w := fun w => run_arrayAt w 101 5 4 _ 4 (cc - 4) Try.underlying101 (by decide)
      have cne : ¬ (cc = 4) := by omega
      clear hcap
      refine start_ (n := 15) (S := fun w' : World => w'.cell? ⟨g, 0, none⟩ = some (.int .u8 (nb D 0 : Int)) ∧ w'.cell? ⟨g, 1, none⟩ = some (.int .u8 (nb D 1 : Int)) ∧ w'.cell? ⟨g, 2, none⟩ = some (.int .u8 (nb D 2 : Int)) ∧ w'.cell? ⟨g, 3, none⟩ = some (.int .u8 (nb D 3 : Int)) ∧ w'.cell? ⟨g, 4, none⟩ = some (.int .u8 (nb D 4 : Int)) ∧ w'.cell? ⟨g, 5, none⟩ = some (.int .u8 (nb D 5 : Int)) ∧ w'.cell? ⟨g, 6, none⟩ = some (.int .u8 (nb D 6 : Int)) ∧ w'.cell? ⟨g, 7, none⟩ = some (.int .u8 (nb D 7 : Int))) (ds := [13]) #[false, false, false, false, false, false, false, false, false, false, false, false, false, false, false] (by kernel_rfl) rfl rfl ⟨HC.out 0 (by omega), HC.out 1 (by omega), HC.out 2 (by omega), HC.out 3 (by omega), HC.out 4 (by omega), HC.out 5 (by omega), HC.out 6 (by omega), HC.out 7 (by omega)⟩ (fun hHeld => ?_)
      replace HC := Aside0.mk (show ∀ j, j < 8 → w5.drew.cell? ⟨g, j, none⟩ = some (.int .u8 (nb D j : Int)) from HC.out)
      replace HB := Aside0.mk (below_drew1 HB.out)
      replace HO := Aside0.mk (Kd.R_drew HO.out)
      replace hg := Aside0.mk (show g < w5.drew.heap.size from hg.out)
      generalize w5.drew = w6 at hHeld HC HB HO hg ⊢
      refine pure_ (i := 0) (N := some 35) (v := ?_) (a' := ?_) #[true, false, false, false, false, false, false, false, false, false, false, false, false, false, false] rfl rfl (by kernel_rfl) (fun _ _ _ h => h) (Or.inl ⟨by rfl, ?_⟩) ?_ ?_
      rotate_left
      · intro w'
        go_simp
        with_reducible rfl
      rotate_left
      · simp only [Act.put, List.setIfInBounds_toArray, List.set_cons_zero, List.set_cons_succ, i64_w, i32_w]
        rfl
      refine pure_ (i := 1) (N := some 36) (v := ?_) (a' := ?_) #[true, true, false, false, false, false, false, false, false, false, false, false, false, false, false] rfl rfl (by kernel_rfl) (fun _ _ _ h => h) (Or.inl ⟨by rfl, ?_⟩) ?_ ?_
      rotate_left
      · intro w'
        go_simp
        with_reducible rfl
      rotate_left
      · simp only [Act.put, List.setIfInBounds_toArray, List.set_cons_zero, List.set_cons_succ, i64_w, i32_w]
        rfl
      refine pure_ (i := 2) (N := some 37) (v := ?_) (a' := ?_) #[true, true, true, false, false, false, false, false, false, false, false, false, false, false, false] rfl rfl (by kernel_rfl) (fun _ _ _ h => h) (Or.inl ⟨by rfl, ?_⟩) ?_ ?_
      rotate_left
      · intro w'
        go_simp
        with_reducible rfl
      rotate_left
      · simp only [Act.put, List.setIfInBounds_toArray, List.set_cons_zero, List.set_cons_succ, i64_w, i32_w]
        rfl
      refine pure_ (i := 3) (N := some 38) (v := ?_) (a' := ?_) #[true, true, true, true, false, false, false, false, false, false, false, false, false, false, false] rfl rfl (by kernel_rfl) (fun _ _ _ h => h) (Or.inl ⟨by rfl, ?_⟩) ?_ ?_
      rotate_left
      · intro w'
        go_simp
        with_reducible rfl
      rotate_left
      · simp only [Act.put, List.setIfInBounds_toArray, List.set_cons_zero, List.set_cons_succ, i64_w, i32_w]
        rfl
      refine take_ (i := 4) (N := some 39) (v := ?_) (a' := ?_) #[true, true, true, true, true, false, false, false, false, false, false, false, false, false, false] rfl rfl (by kernel_rfl) (fun _ _ _ h => h) (Or.inl ⟨by rfl, ?_⟩) hHeld ?_ ?_
      rotate_left
      · rintro w' ⟨s0, s1, s2, s3, s4, s5, s6, s7⟩
        go_simp
        with_reducible rfl
      rotate_left
      · simp only [Act.put, List.setIfInBounds_toArray, List.set_cons_zero, List.set_cons_succ, i64_w, i32_w]
        rfl
      refine pure_ (i := 6) (N := some 41) (v := ?_) (a' := ?_) #[true, true, true, true, true, false, true, false, false, false, false, false, false, false, false] rfl rfl (by kernel_rfl) (fun _ _ _ h => h) (Or.inl ⟨by rfl, ?_⟩) ?_ ?_
      rotate_left
      · intro w'
        go_simp
        with_reducible rfl
      rotate_left
      · simp only [Act.put, List.setIfInBounds_toArray, List.set_cons_zero, List.set_cons_succ, i64_w, i32_w]
        rfl
      refine pure_ (i := 7) (N := some 42) (v := ?_) (a' := ?_) #[true, true, true, true, true, false, true, true, false, false, false, false, false, false, false] rfl rfl (by kernel_rfl) (fun _ _ _ h => h) (Or.inl ⟨by rfl, ?_⟩) ?_ ?_
      rotate_left
      · intro w'
        go_simp
        with_reducible rfl
      rotate_left
      · simp only [Act.put, List.setIfInBounds_toArray, List.set_cons_zero, List.set_cons_succ, i64_w, i32_w]
        rfl
      refine pure_ (i := 8) (N := some 43) (v := ?_) (a' := ?_) #[true, true, true, true, true, false, true, true, true, false, false, false, false, false, false] rfl rfl (by kernel_rfl) (fun _ _ _ h => h) (Or.inl ⟨by rfl, ?_⟩) ?_ ?_
      rotate_left
      · intro w'
        go_simp
        with_reducible rfl
      rotate_left
      · simp only [Act.put, List.setIfInBounds_toArray, List.set_cons_zero, List.set_cons_succ, i64_w, i32_w]
        rfl
      refine take_ (i := 9) (N := some 44) (v := ?_) (a' := ?_) #[true, true, true, true, true, false, true, true, true, true, false, false, false, false, false] rfl rfl (by kernel_rfl) (fun _ _ _ h => h) (Or.inl ⟨by rfl, ?_⟩) hHeld ?_ ?_
      rotate_left
      · rintro w' ⟨s0, s1, s2, s3, s4, s5, s6, s7⟩
        go_simp
        with_reducible rfl
      rotate_left
      · simp only [Act.put, List.setIfInBounds_toArray, List.set_cons_zero, List.set_cons_succ, i64_w, i32_w]
        rfl
      refine one_ (i := 5) (N := some 40) #[true, true, true, true, true, true, true, true, true, true, false, false, false, false, false] rfl rfl (by kernel_rfl) (by decide) (fun K hK => ?_)
      refine goes_ Try.func63 (by kernel_rfl) rfl #[.agg #[.int .u8 (nb D 0 : Int), .int .u8 (nb D 1 : Int), .int .u8 (nb D 2 : Int), .int .u8 (nb D 3 : Int)]] (by rfl) rfl rfl (by (try simp only [List.map_toArray, List.map_cons, List.map_nil]); first | done | rfl) ?_
      refine (number_c (nb D 0) (nb D 1) (nb D 2) (nb D 3) (nb_lt D _) (nb_lt D _) (nb_lt D _) (nb_lt D _) _).mono ?_
      rintro e w7 ⟨rfl, hb⟩
      refine ⟨_, rfl, ?_⟩
      replace HC := Aside0.mk (fun j (hj : j < 8) => (hb.cell (p := ⟨g, j, none⟩) hg.out).trans (HC.out j hj))
      replace HB := Aside0.mk (below_step HB.out hb)
      replace HO := Aside0.mk (Kd.R_below HO.out hb)
      replace hg := Aside0.mk (Nat.lt_of_lt_of_le hg.out hb.size)
      clear hb hHeld
      try clear w6
      refine hK.out _ _ ⟨HC.out 0 (by omega), HC.out 1 (by omega), HC.out 2 (by omega), HC.out 3 (by omega), HC.out 4 (by omega), HC.out 5 (by omega), HC.out 6 (by omega), HC.out 7 (by omega)⟩ (fun hHeld => ?_)
      clear hK K
      refine norm_ (a' := ?_) ?_ ?_
      rotate_left
      · show Act.put _ (some 40) _ = _
        simp only [Act.put, List.setIfInBounds_toArray, List.set_cons_zero, List.set_cons_succ, i64_w, i32_w]
        rfl
      skip
      refine one_ (i := 10) (N := some 45) #[true, true, true, true, true, true, true, true, true, true, true, false, false, false, false] rfl rfl (by kernel_rfl) (by decide) (fun K hK => ?_)
      refine goes_ Try.func63 (by kernel_rfl) rfl #[.agg #[.int .u8 (nb D 4 : Int), .int .u8 (nb D 5 : Int), .int .u8 (nb D 6 : Int), .int .u8 (nb D 7 : Int)]] (by rfl) rfl rfl (by (try simp only [List.map_toArray, List.map_cons, List.map_nil]); first | done | rfl) ?_
      refine (number_c (nb D 4) (nb D 5) (nb D 6) (nb D 7) (nb_lt D _) (nb_lt D _) (nb_lt D _) (nb_lt D _) _).mono ?_
      rintro e w7 ⟨rfl, hb⟩
      refine ⟨_, rfl, ?_⟩
      replace HC := Aside0.mk (fun j (hj : j < 8) => (hb.cell (p := ⟨g, j, none⟩) hg.out).trans (HC.out j hj))
      replace HB := Aside0.mk (below_step HB.out hb)
      replace HO := Aside0.mk (Kd.R_below HO.out hb)
      replace hg := Aside0.mk (Nat.lt_of_lt_of_le hg.out hb.size)
      clear hb hHeld
      try clear w6
      refine hK.out _ _ ⟨HC.out 0 (by omega), HC.out 1 (by omega), HC.out 2 (by omega), HC.out 3 (by omega), HC.out 4 (by omega), HC.out 5 (by omega), HC.out 6 (by omega), HC.out 7 (by omega)⟩ (fun hHeld => ?_)
      clear hK K
      refine norm_ (a' := ?_) ?_ ?_
      rotate_left
      · show Act.put _ (some 45) _ = _
        simp only [Act.put, List.setIfInBounds_toArray, List.set_cons_zero, List.set_cons_succ, i64_w, i32_w]
        rfl
      refine pure_ (i := 11) (N := some 46) (v := ?_) (a' := ?_) #[true, true, true, true, true, true, true, true, true, true, true, true, false, false, false] rfl rfl (by kernel_rfl) (fun _ _ _ h => h) (Or.inl ⟨by rfl, ?_⟩) ?_ ?_
      rotate_left
      · intro w'
        go_simp
        with_reducible rfl
      rotate_left
      · simp only [Act.put, List.setIfInBounds_toArray, List.set_cons_zero, List.set_cons_succ, i64_w, i32_w]
        rfl
      refine one_ (i := 12) (N := some 47) #[true, true, true, true, true, true, true, true, true, true, true, true, true, false, false] rfl rfl (by kernel_rfl) (by decide) (fun K hK => ?_)
      refine value_ (v := ?_) (w1 := ?_) (by rfl) rfl ?_ ?_
      rotate_left
      rotate_left
      · go_simp
        first | rfl | (constructor <;> rfl)
      refine hK.out _ _ ⟨(fun j hj => (cell_alloc (HC.out j hj) _)) 0 (by omega), (fun j hj => (cell_alloc (HC.out j hj) _)) 1 (by omega), (fun j hj => (cell_alloc (HC.out j hj) _)) 2 (by omega), (fun j hj => (cell_alloc (HC.out j hj) _)) 3 (by omega), (fun j hj => (cell_alloc (HC.out j hj) _)) 4 (by omega), (fun j hj => (cell_alloc (HC.out j hj) _)) 5 (by omega), (fun j hj => (cell_alloc (HC.out j hj) _)) 6 (by omega), (fun j hj => (cell_alloc (HC.out j hj) _)) 7 (by omega)⟩ (fun hHeld => ?_)
      clear hK K
      refine norm_ (a' := ?_) ?_ ?_
      rotate_left
      · show Act.put _ (some 47) _ = _
        simp only [Act.put, List.setIfInBounds_toArray, List.set_cons_zero, List.set_cons_succ, i64_w, i32_w]
        rfl
      refine last_ (i := 13) (N := some 48) #[true, true, true, true, true, true, true, true, true, true, true, true, true, true, false] rfl rfl (by kernel_rfl) (by decide) (fun K hK => ?_)
      refine Kd.R_append_step kE (w0 := w) w.heap.size (by rfl) (.tmp 35) (.tmp 47) 31 23 (.agg #[.int .i64 0, .int .i64 0]) 16 rfl Try.underlying31 (by kernel_rfl) rfl (by decide) (by decide) _ (dealL tape wv k) (num4 D 0, num4 D 4) [.int .i64 (num4 D 0), .int .i64 (num4 D 4)] (fun _ => True) (fun _ => False) rfl rfl ⟨[.int .i64 (num4 D 0)], [.int .i64 (num4 D 4)], rfl, rfl, rfl⟩ (fun _ h => h.elim) (fun _ _ => trivial) HO.out HB.out HB.out.size (by rw [dealL_length]; have := HM.out; omega) ?_
      intro v1 w9 hO hB hgr hat
      have HO' := Aside0.mk hO
      have HB' := Aside0.mk hB
      clear hO hB hat HO HB
      refine hK.out _ _ ?_
      clear hK K
      refine norm_ (a' := ?_) ?_ ?_
      rotate_left
      · show Act.put _ (some 48) _ = _
        simp only [Act.put, List.setIfInBounds_toArray, List.set_cons_zero, List.set_cons_succ, i64_w, i32_w]
        rfl
      refine pure_ (i := 14) (N := some 7) (v := ?_) (a' := ?_) #[true, true, true, true, true, true, true, true, true, true, true, true, true, true, true] rfl rfl (by kernel_rfl) (fun _ _ _ h => h) (Or.inl ⟨by rfl, ?_⟩) ?_ ?_
      rotate_left
      · intro w'
        go_simp
        with_reducible rfl
      rotate_left
      · simp only [Act.put, List.setIfInBounds_toArray, List.set_cons_zero, List.set_cons_succ, i64_w, i32_w]
        rfl
      refine done_ (by kernel_rfl) ?_
      have E : (num4 D 0, num4 D 4) = dealE tape wv k := by unfold dealE; rw [HDk.out]
      rw [E, ← dealL_succ] at HO'
      have kb0 : (0 : Int) ≤ (k : Int) := by omega
      have kb1 : (k : Int) ≤ 64 := by have := HM.out; omega
      go_wp2
      go_roundw
      case rel => exact ⟨k + 1, by omega, by go_num, HO', HB'⟩
      case measure => simp [intOf]; omega
    · have hkm : k = m := by omega
      subst hkm
      have lt1 : decide ((k : Int) < (k : Int)) = false := decide_eq_false (by omega)
      go_wp2
      go_ret
      exact ⟨_, rfl, HO.out, HB.out⟩
set_option maxHeartbeats 8000000 in
set_option maxRecDepth 100000 in
theorem deal_low (tape : ByteArray) (a1 n : Int) (w : World) (h1 : a1 < 1) :
    Calls Try.prog 21 #[.string tape, .int .i64 a1, .int .i64 n] w fun e w' => ∃ v, e = .returned v ∧ Kd.R kE 23 w' w.heap.size (fun _ => True) v [] ∧ Below w.heap.size w w' := by
  have b1 : decide (a1 < 1) = true := decide_eq_true h1
  clear h1
  go_enter Try.func21, Try.ntmps21
  go_wp2
  go_ret
  exact ⟨_, rfl, Kd.R_nil _ _ _ _ _, Below.refl _ _⟩
set_option maxHeartbeats 8000000 in
set_option maxRecDepth 100000 in
theorem deal_not (tape : ByteArray) (a1 n : Int) (w : World) (h1 : ¬ a1 < 1)
    (kMay : ∀ W, Calls Try.prog 57 #[.int .i64 n] W fun e W' => e = .returned (.bool false) ∧ Drawn0 W W') :
    Calls Try.prog 21 #[.string tape, .int .i64 a1, .int .i64 n] w fun e w' => ∃ v, e = .returned v ∧ Kd.R kE 23 w' w.heap.size (fun _ => True) v [] ∧ Below w.heap.size w w' := by
  have b1 : decide (a1 < 1) = false := decide_eq_false h1
  have HB := Aside0.mk (Below.refl w.heap.size w)
  have KM := Lib.hid kMay
  clear h1 kMay
  go_enter Try.func21, Try.ntmps21
  go_wp2_with (go_at_call 57; (refine (KM.out _).mono ?_); rintro e w1 ⟨rfl, ⟨nd, rfl⟩⟩; replace HB := Aside0.mk (pw_below_drewN HB.out nd))
  go_ret
  exact ⟨_, rfl, Kd.R_nil _ _ _ _ _, HB.out⟩
end Go.Proofs.Ytdppmkcahfjceaa.Sa

