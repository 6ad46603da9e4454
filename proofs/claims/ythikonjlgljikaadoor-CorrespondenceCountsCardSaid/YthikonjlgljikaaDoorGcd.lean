/- Contracts of the functions that compute a greatest common divisor or a residue. -/
import Derived.Test.YthikonjlgljikaaDoorKit
namespace Go.Proofs.YthikonjlgljikaaDoor
open Go.RowKit

theorem c_gcd (a b : Int) (w : World) (ha : -9223372036854775807 ≤ a) (ha' : a ≤ 9223372036854775807) (hb : -9223372036854775807 ≤ b) (hb' : b ≤ 9223372036854775807) :
    Calls Tryd.prog 12 #[.int .i64 a, .int .i64 b] w fun e w' => e = .returned (.int .i64 (Int.gcd a b)) ∧ ∃ n, w' = w.drewN n := by
  go_enter Tryd.func12, Tryd.ntmps12
  go_wp2
  go_loopw [0, 1] (fun x y wr => ∃ x' y' : Int, x = .int .i64 x' ∧ y = .int .i64 y' ∧ -9223372036854775807 ≤ x' ∧ x' ≤ 9223372036854775807 ∧ -9223372036854775807 ≤ y' ∧ y' ≤ 9223372036854775807 ∧ Int.gcd x' y' = Int.gcd a b ∧ ∃ n, wr = w.drewN n) (fun _ y _ => (intOf y).natAbs)
  case atStart => exact ⟨a, b, rfl, rfl, ha, ha', hb, hb', rfl, 0, rfl⟩
  case round =>
    obtain ⟨x, y, rfl, rfl, hx, hx', hy, hy', hg, n, rfl⟩ := hrel
    have HG := Lib.hid hg
    clear hg
    by_cases h0 : y = 0
    · subst h0
      go_wp2
      all_goals (go_ret; refine ⟨ret_i ?_, n, rfl⟩; rw [← HG.out, gcd_zero]; first | (rw [if_pos (by omega)]; done) | (rw [if_neg (by omega)]; done) | omega)
    · obtain ⟨hs, hm⟩ := gcd_step x y h0
      have HS := Lib.hid hs
      clear hs
      go_wp2
      go_quiet (fail)
      go_wp2
      go_roundw
      case rel => exact ⟨y, x.tmod y, rfl, rfl, hy, hy', by omega, by omega, by rw [HS.out, HG.out], _, dr2 _ _ _⟩
      case measure => exact hm

theorem c_gcd18 (a b : Int) (w : World) (ha : -9223372036854775807 ≤ a) (ha' : a ≤ 9223372036854775807) (hb : -9223372036854775807 ≤ b) (hb' : b ≤ 9223372036854775807) :
    Calls Tryd.prog 98 #[.int .i64 a, .int .i64 b] w fun e w' => e = .returned (.int .i64 (Int.gcd a b)) ∧ ∃ n, w' = w.drewN n := by
  go_enter Tryd.func98, Tryd.ntmps98
  go_wp2
  go_loopw [0, 1] (fun x y wr => ∃ x' y' : Int, x = .int .i64 x' ∧ y = .int .i64 y' ∧ -9223372036854775807 ≤ x' ∧ x' ≤ 9223372036854775807 ∧ -9223372036854775807 ≤ y' ∧ y' ≤ 9223372036854775807 ∧ Int.gcd x' y' = Int.gcd a b ∧ ∃ n, wr = w.drewN n) (fun _ y _ => (intOf y).natAbs)
  case atStart => exact ⟨a, b, rfl, rfl, ha, ha', hb, hb', rfl, 0, rfl⟩
  case round =>
    obtain ⟨x, y, rfl, rfl, hx, hx', hy, hy', hg, n, rfl⟩ := hrel
    have HG := Lib.hid hg
    clear hg
    by_cases h0 : y = 0
    · subst h0
      go_wp2
      all_goals (go_ret; refine ⟨ret_i ?_, n, rfl⟩; rw [← HG.out, gcd_zero]; first | (rw [if_pos (by omega)]; done) | (rw [if_neg (by omega)]; done) | omega)
    · obtain ⟨hs, hm⟩ := gcd_step x y h0
      have HS := Lib.hid hs
      clear hs
      go_wp2
      go_quiet (fail)
      go_wp2
      go_roundw
      case rel => exact ⟨y, x.tmod y, rfl, rfl, hy, hy', by omega, by omega, by rw [HS.out, HG.out], _, dr2 _ _ _⟩
      case measure => exact hm

/-- 'for b > 0' over numbers that are not negative. -/
theorem c_gcd46 (a b : Int) (w : World) (ha : 0 ≤ a) (ha' : a ≤ 9223372036854775807) (hb : 0 ≤ b) (hb' : b ≤ 9223372036854775807) :
    Calls Tryd.prog 28 #[.int .i64 a, .int .i64 b] w fun e w' => e = .returned (.int .i64 (Int.gcd a b)) ∧ ∃ n, w' = w.drewN n := by
  go_enter Tryd.func28, Tryd.ntmps28
  go_wp2
  go_loopw [0, 1] (fun x y wr => ∃ x' y' : Int, x = .int .i64 x' ∧ y = .int .i64 y' ∧ 0 ≤ x' ∧ x' ≤ 9223372036854775807 ∧ 0 ≤ y' ∧ y' ≤ 9223372036854775807 ∧ Int.gcd x' y' = Int.gcd a b ∧ ∃ n, wr = w.drewN n) (fun _ y _ => (intOf y).natAbs)
  case atStart => exact ⟨a, b, rfl, rfl, ha, ha', hb, hb', rfl, 0, rfl⟩
  case round =>
    obtain ⟨x, y, rfl, rfl, hx, hx', hy, hy', hg, n, rfl⟩ := hrel
    have HG := Lib.hid hg
    clear hg
    by_cases h0 : y = 0
    · subst h0
      go_wp2
      go_ret
      exact ⟨ret_i (by rw [← HG.out, Int.gcd_zero_right]; omega), n, rfl⟩
    · obtain ⟨hs, hm, hm'⟩ := gcd_stepN x y (by omega) hx
      have HS := Lib.hid hs
      clear hs
      go_wp2
      go_quiet (fail)
      go_wp2
      go_roundw
      case rel => exact ⟨y, x % y, rfl, rfl, hy, hy', by omega, by omega, by rw [HS.out, HG.out], _, dr2 _ _ _⟩
      case measure => simp [intOf]; omega
theorem c_gcd40 (a b : Int) (w : World) (ha : 0 ≤ a) (ha' : a ≤ 9223372036854775807) (hb : 0 ≤ b) (hb' : b ≤ 9223372036854775807) :
    Calls Tryd.prog 52 #[.int .i64 a, .int .i64 b] w fun e w' => e = .returned (.int .i64 (Int.gcd a b)) ∧ ∃ n, w' = w.drewN n := by
  go_enter Tryd.func52, Tryd.ntmps52
  go_wp2
  go_loopw [0, 1] (fun x y wr => ∃ x' y' : Int, x = .int .i64 x' ∧ y = .int .i64 y' ∧ 0 ≤ x' ∧ x' ≤ 9223372036854775807 ∧ 0 ≤ y' ∧ y' ≤ 9223372036854775807 ∧ Int.gcd x' y' = Int.gcd a b ∧ ∃ n, wr = w.drewN n) (fun _ y _ => (intOf y).natAbs)
  case atStart => exact ⟨a, b, rfl, rfl, ha, ha', hb, hb', rfl, 0, rfl⟩
  case round =>
    obtain ⟨x, y, rfl, rfl, hx, hx', hy, hy', hg, n, rfl⟩ := hrel
    have HG := Lib.hid hg
    clear hg
    by_cases h0 : y = 0
    · subst h0
      go_wp2
      go_ret
      exact ⟨ret_i (by rw [← HG.out, Int.gcd_zero_right]; omega), n, rfl⟩
    · obtain ⟨hs, hm, hm'⟩ := gcd_stepN x y (by omega) hx
      have HS := Lib.hid hs
      clear hs
      go_wp2
      go_quiet (fail)
      go_wp2
      go_roundw
      case rel => exact ⟨y, x % y, rfl, rfl, hy, hy', by omega, by omega, by rw [HS.out, HG.out], _, dr2 _ _ _⟩
      case measure => simp [intOf]; omega

/-- A residue. -/
theorem emod_of_tmod (a m : Int) (hm : 0 < m) : (if a.tmod m < 0 then a.tmod m + m else a.tmod m) = a % m := by
  rw [Int.tmod_eq_emod]
  have h1 := Int.emod_nonneg a (show m ≠ 0 by omega)
  have h2 := Int.emod_lt_of_pos a hm
  by_cases h : 0 ≤ a ∨ m ∣ a
  · rw [if_pos h]; split <;> omega
  · rw [if_neg h]; split <;> omega
theorem c_residue (a m : Int) (w : World) (hm : 0 < m) (hm' : m ≤ 4611686018427387904) :
    Calls Tryd.prog 46 #[.int .i64 a, .int .i64 m] w fun e w' => e = .returned (.int .i64 (a % m)) ∧ w' = w := by
  have h1 : -m < a.tmod m := by have := Int.lt_tmod_of_pos a hm; omega
  have h2 : a.tmod m < m := Int.tmod_lt_of_pos a hm
  have HE := Lib.hid (emod_of_tmod a m hm)
  go_enter Tryd.func46, Tryd.ntmps46
  go_wp2
  all_goals (go_ret; refine ⟨ret_i ?_, rfl⟩; rw [← HE.out]; first | (rw [if_pos (by omega)]; done) | (rw [if_neg (by omega)]; done))
theorem c_Mod (a m : Int) (w : World) (hm : 0 < m) (hm' : m ≤ 4611686018427387904) :
    Calls Tryd.prog 51 #[.int .i64 a, .int .i64 m] w fun e w' => e = .returned (.int .i64 (a % m)) ∧ w' = w := by
  have h1 : -m < a.tmod m := by have := Int.lt_tmod_of_pos a hm; omega
  have h2 : a.tmod m < m := Int.tmod_lt_of_pos a hm
  have HE := Lib.hid (emod_of_tmod a m hm)
  go_enter Tryd.func51, Tryd.ntmps51
  go_wp2
  all_goals (go_ret; refine ⟨ret_i ?_, rfl⟩; rw [← HE.out]; first | (rw [if_pos (by omega)]; done) | (rw [if_neg (by omega)]; done))
theorem c_Mod03 (a m : Int) (w : World) (hm : 0 < m) (hm' : m ≤ 4611686018427387904) :
    Calls Tryd.prog 96 #[.int .i64 a, .int .i64 m] w fun e w' => e = .returned (.int .i64 (a % m)) ∧ w' = w := by
  have h1 : -m < a.tmod m := by have := Int.lt_tmod_of_pos a hm; omega
  have h2 : a.tmod m < m := Int.tmod_lt_of_pos a hm
  have HE := Lib.hid (emod_of_tmod a m hm)
  go_enter Tryd.func96, Tryd.ntmps96
  go_wp2
  all_goals (go_ret; refine ⟨ret_i ?_, rfl⟩; rw [← HE.out]; first | (rw [if_pos (by omega)]; done) | (rw [if_neg (by omega)]; done))
end Go.Proofs.YthikonjlgljikaaDoor
