/- Contracts of the two functions that check a Spec. -/
import Derived.Test.YthikonjlgljikaaDoorFund
namespace Go.Proofs.YthikonjlgljikaaDoor
open Go.RowKit

abbrev spec (N k D : Int) : Value := .agg #[.int .i64 N, .int .i64 k, .int .i64 D]
theorem check_range {N k D : Int} (h : N < 1 ∨ 120 < N ∨ k < 2 ∨ 24 < k ∨ D < -120 ∨ 120 < D) : Pl.check N k D = 2 := by unfold Pl.check; rw [if_pos h]
theorem fund_no {D : Int} (h : Pl.fund D = false) : D = 0 ∨ 1 < D % 4 ∨ (Pl.fundP D).2 ≠ 1 := by
  by_cases h0 : D = 0
  · exact .inl h0
  · by_cases h1 : 1 < D % 4
    · exact .inr (.inl h1)
    · refine .inr (.inr fun h2 => ?_)
      simp only [Pl.fund, Bool.and_eq_false_iff, decide_eq_false_iff_not] at h
      omega
theorem fund_yes {D : Int} (h : Pl.fund D = true) : D ≠ 0 ∧ D % 4 ≤ 1 ∧ (Pl.fundP D).2 = 1 := by
  simp only [Pl.fund, Bool.and_eq_true, decide_eq_true_eq] at h
  exact ⟨h.1.1, h.1.2, h.2⟩

/-- Fundamental at any number of at most 120. -/
theorem c_Fundamental (d : Int) (w : World) (hd : -120 ≤ d) (hd' : d ≤ 120) :
    Calls Tryd.prog 43 #[.int .i64 d] w fun en w' => (∃ a b c : Int, en = .returned (.tuple #[.int .i64 a, .int .i64 b, .int .i64 c]) ∧ (Pl.fund d = true ↔ c = 0 ∧ b = 1)) ∧ Below w.heap.size w w' := by
  by_cases h0 : d = 0
  · subst h0
    refine (c_Fund_zero w).mono ?_
    rintro en w' ⟨rfl, hb⟩
    exact ⟨⟨0, 0, 2, rfl, by decide⟩, hb⟩
  · by_cases h1 : 1 < d % 4
    · refine (c_Fund_bad d w h0 hd hd' h1).mono ?_
      rintro en w' ⟨rfl, hb⟩
      refine ⟨⟨0, 0, 15, rfl, ?_⟩, hb⟩
      constructor
      · intro h; have := fund_yes h; omega
      · intro h; omega
    · have key : Calls Tryd.prog 43 #[.int .i64 d] w fun en w' => en = .returned (.tuple #[.int .i64 (Pl.fundP d).1, .int .i64 (Pl.fundP d).2, .int .i64 0]) ∧ Below w.heap.size w w' := by
        by_cases h2 : 0 ≤ d
        · obtain ⟨n, rfl⟩ := Int.eq_ofNat_of_zero_le h2
          exact c_Fund_pos n w (by omega) (by omega) (by omega)
        · obtain ⟨n, rfl⟩ : ∃ n : Nat, d = -(n : Int) := ⟨d.natAbs, by omega⟩
          exact c_Fund_neg n w (by omega) (by omega) (by omega)
      refine key.mono ?_
      rintro en w' ⟨rfl, hb⟩
      refine ⟨⟨_, _, 0, rfl, ?_⟩, hb⟩
      constructor
      · intro h; exact ⟨rfl, (fund_yes h).2.2⟩
      · intro h
        simp only [Pl.fund, Bool.and_eq_true, decide_eq_true_eq]
        exact ⟨⟨h0, by omega⟩, h.2⟩

theorem c_Check_range (N k D : Int) (w : World) (h : N < 1 ∨ 120 < N ∨ k < 2 ∨ 24 < k ∨ D < -120 ∨ 120 < D) :
    Calls Tryd.prog 25 #[spec N k D] w fun en w' => en = .returned (.int .i64 (Pl.check N k D)) ∧ Below w.heap.size w w' := by
  rw [check_range h]
  by_cases h1 : N < 1
  · go_enter Tryd.func25, Tryd.ntmps25
    go_wp2
    go_ret
    exact ⟨rfl, by go_grown⟩
  · by_cases h2 : 120 < N
    · go_enter Tryd.func25, Tryd.ntmps25
      go_wp2
      go_ret
      exact ⟨rfl, by go_grown⟩
    · by_cases h3 : k < 2
      · go_enter Tryd.func25, Tryd.ntmps25
        go_wp2
        go_ret
        exact ⟨rfl, by go_grown⟩
      · by_cases h4 : 24 < k
        · go_enter Tryd.func25, Tryd.ntmps25
          go_wp2
          go_ret
          exact ⟨rfl, by go_grown⟩
        · by_cases h5 : D < -120
          · go_enter Tryd.func25, Tryd.ntmps25
            go_wp2
            go_ret
            exact ⟨rfl, by go_grown⟩
          · have h6 : 120 < D := by omega
            go_enter Tryd.func25, Tryd.ntmps25
            go_wp2
            go_ret
            exact ⟨rfl, by go_grown⟩

theorem parity_eq (D k : Int) (h0 : D ≠ 0) : ((decide (D < 0) != (k % 2 == 1)) = true) ↔ ((D < 0 ∧ k % 2 = 0) ∨ (0 < D ∧ k % 2 = 1)) := by
  by_cases h1 : D < 0 <;> by_cases h2 : k % 2 = 1 <;> simp [h1, h2] <;> omega
theorem tmod_nz (a b : Int) : (a.tmod b ≠ 0) ↔ a % b ≠ 0 := by
  rw [ne_eq, ← Int.dvd_iff_tmod_eq_zero, Int.dvd_iff_emod_eq_zero]
set_option maxHeartbeats 2000000 in
theorem c_Check_in (N k D : Int) (w : World) (hN : 1 ≤ N) (hN' : N ≤ 120) (hk : 2 ≤ k) (hk' : k ≤ 24) (hD : -120 ≤ D) (hD' : D ≤ 120) :
    Calls Tryd.prog 25 #[spec N k D] w fun en w' => en = .returned (.int .i64 (Pl.check N k D)) ∧ Below w.heap.size w w' := by
  have HF : Pl.check N k D = if Pl.fund D = false then 15 else if N % D ≠ 0 then 14 else if (D < 0 ∧ k % 2 = 0) ∨ (0 < D ∧ k % 2 = 1) then 16 else if 512 < (Pl.psi N.toNat : Int) * (k - 1) then 7 else 0 := by
    unfold Pl.check; rw [if_neg (by omega)]
  obtain ⟨n, rfl⟩ := Int.eq_ofNat_of_zero_le (show 0 ≤ N by omega)
  have hps := Pl.psi_small n (by omega) (by omega)
  rw [Int.toNat_natCast] at HF
  obtain ⟨q, hq⟩ : ∃ q, Pl.psi n = q := ⟨_, rfl⟩
  rw [hq] at HF hps
  have HF' := Lib.hid HF
  clear HF
  have HQ := Lib.hid hq
  clear hq
  go_enter Tryd.func25, Tryd.ntmps25
  go_wp2_with fail
  refine (c_Fundamental D _ hD hD').mono ?_
  rintro en w1 ⟨⟨a, b, c, rfl, hiff⟩, hb1⟩
  simp only [World.size_alloc] at hb1
  have B1 : Blk w1 w.heap.size 23 #[.int .i64 n, .int .i64 k, .int .i64 D] := (Blk.new w _ _).below_ hb1 (by omega)
  have W1 : Below w.heap.size w w1 := ((Below.refl _ _).alloc (Nat.le_refl _) _).trans (hb1.mono (by omega))
  by_cases hfd : Pl.fund D = false
  · have hne : c ≠ 0 ∨ b ≠ 1 := by
      by_cases h1 : c = 0
      · by_cases h2 : b = 1
        · rw [hiff.2 ⟨h1, h2⟩] at hfd; cases hfd
        · exact .inr h2
      · exact .inl h1
    have HR : Pl.check n k D = 15 := by rw [HF'.out, if_pos hfd]
    have HR' := Lib.hid HR
    clear HR HF' hfd hiff
    rcases hne with h | h
    · go_wp2
      all_goals go_ret
      all_goals exact ⟨ret_i HR'.out.symm, W1⟩
    · go_wp2
      all_goals go_ret
      all_goals exact ⟨ret_i HR'.out.symm, W1⟩
  · have hfd' : Pl.fund D = true := by simpa using hfd
    obtain ⟨rfl, rfl⟩ := hiff.1 hfd'
    have hD0 : D ≠ 0 := (fund_yes hfd').1
    have c0 := B1.at_ 0 rfl
    have HF2 : Pl.check n k D = if (n : Int) % D ≠ 0 then 14 else if (D < 0 ∧ k % 2 = 0) ∨ (0 < D ∧ k % 2 = 1) then 16 else if 512 < (q : Int) * (k - 1) then 7 else 0 := by rw [HF'.out, if_neg hfd]
    have HF3 := Lib.hid HF2
    clear HF2 HF' hfd hfd' hiff
    go_wp2_with fail
    refine (c_Psi n _ (by omega) (by omega)).mono ?_
    rintro en w2 ⟨rfl, hb2⟩
    rw [HQ.out]
    have B2 : Blk w2 w.heap.size 23 #[.int .i64 n, .int .i64 k, .int .i64 D] := B1.below_ hb2 B1.lt
    have W2 : Below w.heap.size w w2 := W1.trans (hb2.mono (Nat.le_of_lt B1.lt))
    have d0 := B2.at_ 0 rfl
    have d1 := B2.at_ 1 rfl
    have d2 := B2.at_ 2 rfl
    have HB1 := Lib.hid B1
    have HB2 := Lib.hid B2
    have HW1 := Lib.hid hb1
    have HW2 := Lib.hid hb2
    clear c0 B1 B2 hb1 hb2 W1
    have hb0 : 0 ≤ (q : Int) * (k - 1) := Int.mul_nonneg (by omega) (by omega)
    have hb1 : (q : Int) * (k - 1) ≤ 1000 * 23 := Int.mul_le_mul (by omega) (by omega) (by omega) (by omega)
    go_wp2
    all_goals go_ret
    all_goals refine ⟨ret_i ?_, W2⟩
    all_goals rw [HF3.out]
    · have h1 : ((n : Int) % D != 0) = true := by assumption
      rw [if_pos (bne_iff_ne.1 h1)]
    · have h1 : ((n : Int) % D != 0) = false := by assumption
      have h2 : (!decide (D < 0) == (k % 2 == 1)) = true := by assumption
      rw [if_neg (by simpa using h1), if_pos ((parity_eq D k hD0).1 (by rw [bne]; revert h2; cases decide (D < 0) <;> cases (k % 2 == 1) <;> simp))]
    · have h1 : ((n : Int) % D != 0) = false := by assumption
      have h2 : (!decide (D < 0) == (k % 2 == 1)) = false := by assumption
      rw [if_neg (by simpa using h1), if_neg (fun h => by have := (parity_eq D k hD0).2 h; rw [bne] at this; revert h2 this; cases decide (D < 0) <;> cases (k % 2 == 1) <;> simp), if_pos (by assumption)]
    · have h1 : ((n : Int) % D != 0) = false := by assumption
      have h2 : (!decide (D < 0) == (k % 2 == 1)) = false := by assumption
      rw [if_neg (by simpa using h1), if_neg (fun h => by have := (parity_eq D k hD0).2 h; rw [bne] at this; revert h2 this; cases decide (D < 0) <;> cases (k % 2 == 1) <;> simp), if_neg (by omega)]
theorem c_Check (N k D : Int) (w : World) :
    Calls Tryd.prog 25 #[spec N k D] w fun en w' => en = .returned (.int .i64 (Pl.check N k D)) ∧ Below w.heap.size w w' := by
  by_cases h : N < 1 ∨ 120 < N ∨ k < 2 ∨ 24 < k ∨ D < -120 ∨ 120 < D
  · exact c_Check_range N k D w h
  · exact c_Check_in N k D w (by omega) (by omega) (by omega) (by omega) (by omega) (by omega)
end Go.Proofs.YthikonjlgljikaaDoor
