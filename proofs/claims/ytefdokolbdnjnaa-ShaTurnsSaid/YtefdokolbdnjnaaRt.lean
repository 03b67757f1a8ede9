import Derived.Test.YtefdokolbdnjnaaMx
/-
  The reference's words turned and shifted, walked. By an AI agent.
-/
namespace Go.Proofs.Ytefdokolbdnjnaa.Sa
open Go.Proofs.Ytefdokolbdnjnaa.Sm
open Go.RowKit Go.Proofs.YtefdokolbdnjnaaW.PrintWords Go.Proofs.YtefdokolbdnjnaaW.PrintLast Go.Proofs.YtefdokolbdnjnaaW.PrintMore
set_option linter.unusedVariables false
set_option linter.unusedSimpArgs false

theorem ret_int {k : IntKind} {a b : Int} (h : a = b) : Ending.returned (.int k a) = .returned (.int k b) := by rw [h]
theorem two_pow_small {k : Nat} (h : k ≤ 31) : 2 ^ k ≤ 2147483648 := Nat.pow_le_pow_right (by decide) h
theorem rotI_nat {a : Nat} (h : a < 4294967296) (k : Nat) (h1 : 1 ≤ k) (h2 : k ≤ 31) : rotI (a : Int) k = ((a / 2 ^ k + (a % 2 ^ k) * 2 ^ (32 - k) : Nat) : Int) := by
  rw [rotI_sum ⟨by omega, by omega⟩ k h1 h2]
  simp
theorem low_small {a k j : Nat} (h1 : 1 ≤ k) (h2 : k ≤ 31) (hj : j ≤ 32 - k) : (a % 2 ^ k) * 2 ^ j < 4294967296 := by
  have hp : 2 ^ k * 2 ^ (32 - k) = 4294967296 := by rw [← Nat.pow_add, show k + (32 - k) = 32 by omega]
  have hm : a % 2 ^ k < 2 ^ k := Nat.mod_lt _ (Nat.two_pow_pos k)
  have hle : 2 ^ j ≤ 2 ^ (32 - k) := Nat.pow_le_pow_right (by decide) hj
  calc (a % 2 ^ k) * 2 ^ j < 2 ^ k * 2 ^ j := Nat.mul_lt_mul_of_pos_right hm (Nat.two_pow_pos _)
    _ ≤ 2 ^ k * 2 ^ (32 - k) := Nat.mul_le_mul_left _ hle
    _ = 4294967296 := hp
theorem rot_small {a : Nat} (h : a < 4294967296) (k : Nat) (h1 : 1 ≤ k) (h2 : k ≤ 31) : a / 2 ^ k + (a % 2 ^ k) * 2 ^ (32 - k) < 4294967296 := by
  have := (rotI_U (a : Int) k).2
  rw [rotI_nat h k h1 h2] at this
  omega
set_option maxHeartbeats 1000000 in
set_option maxRecDepth 100000 in
theorem rturn_n (a k : Nat) (ha : a < 4294967296) (h1 : 1 ≤ k) (h2 : k ≤ 31) (w : World) : Calls Try.prog 72 #[.int .u32 a, .int .i64 k] w fun e w' => e = .returned (.int .u32 (rotI a k)) ∧ w = w' := by
  rw [rotI_nat ha k h1 h2]
  go_enter Try.func72, Try.ntmps72
  go_wp2
  go_loop [5, 6] (fun p i => ∃ j : Nat, j ≤ k ∧ i = .int .i64 j ∧ p = .int .u32 ((2 ^ j : Nat) : Int)) (fun _ i => k - (intOf i).toNat)
  case atStart => exact ⟨0, Nat.zero_le _, rfl, rfl⟩
  case round =>
    obtain ⟨j, hj, rfl, rfl⟩ := hrel
    by_cases hlt : j < k
    · have hb := two_pow_small (k := j + 1) (by omega)
      rw [Nat.pow_succ] at hb
      obtain ⟨P, hP⟩ : ∃ P, P = 2 ^ j := ⟨_, rfl⟩
      rw [← hP] at hb ⊢
      have HP := Lib.hid hP
      clear hP
      go_wp2
      go_round
      case rel => exact ⟨j + 1, by omega, by go_num, by rw [Nat.pow_succ, ← HP.out]; go_num⟩
      case measure => simp [intOf]; omega
    · obtain rfl : j = k := by omega
      clear hlt hj
      have hb := two_pow_small (k := j) h2
      have hpos := Nat.two_pow_pos j
      obtain ⟨P, hP⟩ : ∃ P, P = 2 ^ j := ⟨_, rfl⟩
      have HS := Lib.hid (rot_small ha j h1 h2)
      have HL := Lib.hid (fun i (hi : i ≤ 32 - j) => low_small (a := a) h1 h2 hi)
      rw [← hP] at hb hpos HS HL ⊢
      have EP := Lib.hid hP
      clear hP
      obtain ⟨L, hL⟩ : ∃ L, L = a % P := ⟨_, rfl⟩
      rw [← hL] at HS HL
      have hL2 : ((a : Int) % (P : Int)) = (L : Int) := by rw [hL]; simp
      have EL := Lib.hid hL
      clear hL
      go_wp2
      go_loop [7, 8] (fun q i => ∃ m : Nat, m ≤ 32 - j ∧ i = .int .i64 m ∧ q = .int .u32 ((L * 2 ^ m : Nat) : Int)) (fun _ i => (32 - j) - (intOf i).toNat)
      case atStart => exact ⟨0, Nat.zero_le _, rfl, by simp⟩
      case round =>
        obtain ⟨m, hm, rfl, rfl⟩ := hrel
        by_cases hlt : m < 32 - j
        · have hb2 := HL.out (m + 1) (by omega)
          rw [Nat.pow_succ, ← Nat.mul_assoc] at hb2
          obtain ⟨X, hX⟩ : ∃ X, X = L * 2 ^ m := ⟨_, rfl⟩
          rw [← hX] at hb2 ⊢
          have HX := Lib.hid hX
          clear hX
          go_wp2
          go_round
          case rel => exact ⟨m + 1, by omega, by go_num, by rw [Nat.pow_succ, ← Nat.mul_assoc, ← HX.out]; go_num⟩
          case measure => simp [intOf]; omega
        · have em : 32 - j = m := by omega
          have hge : ¬ ((m : Int) < 32 - (j : Int)) := by omega
          rw [em] at HS
          have hs := HS.out
          have hs2 : (a : Int) / (P : Int) + ((L * 2 ^ m : Nat) : Int) < 4294967296 := by
            have : (a : Int) / (P : Int) = ((a / P : Nat) : Int) := by simp
            rw [this]; omega
          have hs1 : 0 ≤ (a : Int) / (P : Int) := Int.ediv_nonneg (by omega) (by omega)
          obtain ⟨X, hX⟩ : ∃ X, X = L * 2 ^ m := ⟨_, rfl⟩
          rw [← hX] at hs2 ⊢
          have EX := Lib.hid hX
          have EM := Lib.hid em
          clear hX hs hlt hm em HL
          go_wp2
          go_ret
          refine ⟨(ret_int ?_ : Ending.returned (.int .u32 ((a : Int) / (P : Int) + (X : Int))) = _), rfl⟩
          rw [EX.out, EM.out, EL.out, EP.out]
          simp
theorem rturn_c (x z : Int) (hx : U x) (h1 : 1 ≤ z) (h2 : z ≤ 31) (w : World) : Calls Try.prog 72 #[.int .u32 x, .int .i64 z] w fun e w' => e = .returned (.int .u32 (rotI x z.toNat)) ∧ w = w' := by
  obtain ⟨a, rfl⟩ := Int.eq_ofNat_of_zero_le hx.1
  have e : z = ((z.toNat : Nat) : Int) := by omega
  have c := rturn_n a z.toNat (by have := hx.2; omega) (by omega) (by omega) w
  rw [← e] at c
  exact c
set_option maxHeartbeats 1000000 in
set_option maxRecDepth 100000 in
theorem rover_n (a k : Nat) (hk : k ≤ 31) (ha : a < 4294967296) (w : World) : Calls Try.prog 73 #[.int .u32 a, .int .i64 k] w fun e w' => e = .returned (.int .u32 ((a / 2 ^ k : Nat) : Int)) ∧ w = w' := by
  go_enter Try.func73, Try.ntmps73
  go_wp2
  go_loop [0, 5] (fun p i => ∃ j : Nat, j ≤ k ∧ i = .int .i64 j ∧ p = .int .u32 ((a / 2 ^ j : Nat) : Int)) (fun _ i => k - (intOf i).toNat)
  case atStart => exact ⟨0, Nat.zero_le _, rfl, by simp⟩
  case round =>
    obtain ⟨j, hj, rfl, rfl⟩ := hrel
    by_cases hlt : j < k
    · have hb : a / 2 ^ j < 4294967296 := Nat.lt_of_le_of_lt (Nat.div_le_self _ _) ha
      have hd : a / 2 ^ (j + 1) = a / 2 ^ j / 2 := by rw [Nat.pow_succ, Nat.div_div_eq_div_mul]
      obtain ⟨X, hX⟩ : ∃ X, X = a / 2 ^ j := ⟨_, rfl⟩
      rw [← hX] at hb hd ⊢
      have HD := Lib.hid hd
      clear hX hd
      go_wp2
      go_round
      case rel => exact ⟨j + 1, by omega, by go_num, by rw [HD.out]; go_num⟩
      case measure => simp [intOf]; omega
    · obtain rfl : j = k := by omega
      go_wp2
      go_ret
      exact ⟨rfl, rfl⟩
theorem rover_c (x z : Int) (hx : U x) (h1 : 1 ≤ z) (h2 : z ≤ 31) (w : World) : Calls Try.prog 73 #[.int .u32 x, .int .i64 z] w fun e w' => e = .returned (.int .u32 (x / 2 ^ z.toNat)) ∧ w = w' := by
  obtain ⟨a, rfl⟩ := Int.eq_ofNat_of_zero_le hx.1
  have e : z = ((z.toNat : Nat) : Int) := by omega
  have c := rover_n a z.toNat (by omega) (by have := hx.2; omega) w
  rw [← e] at c
  simpa using c
end Go.Proofs.Ytefdokolbdnjnaa.Sa
