/- Contracts of sl2 and halfplaneref18: Lowest. -/
import Derived.Test.YthikonjlgljikaaGreatDoorIm428
namespace Go.Proofs.YthikonjlgljikaaGreatDoor
open Go.RowKit

/-- Lowest terms. -/
def low (p q : Int) : Int × Int := if q < 0 ∨ (q = 0 ∧ p < 0) then (-(p.tdiv ((Int.gcd p q : Nat) : Int)), -(q.tdiv ((Int.gcd p q : Nat) : Int))) else (p.tdiv ((Int.gcd p q : Nat) : Int), q.tdiv ((Int.gcd p q : Nat) : Int))
theorem tdiv_b {p g : Int} {K : Nat} (h : p.natAbs ≤ K) : (p.tdiv g).natAbs ≤ K := by
  rw [Int.natAbs_tdiv]
  exact Nat.le_trans (Nat.div_le_self _ _) h
theorem tdiv_sgn {q g : Int} (hg : 0 < g) (h : g ∣ q) : (q.tdiv g < 0 ↔ q < 0) ∧ (q.tdiv g = 0 ↔ q = 0) := by
  obtain ⟨k, rfl⟩ := h
  rw [Int.mul_tdiv_cancel_left _ (by omega)]
  constructor
  · constructor
    · intro hk; exact Int.mul_neg_of_pos_of_neg hg hk
    · intro hk
      rcases (by omega : k < 0 ∨ 0 ≤ k) with h1 | h1
      · exact h1
      · have := Int.mul_nonneg (Int.le_of_lt hg) h1; omega
  · constructor
    · intro hk; rw [hk, Int.mul_zero]
    · intro hk
      rcases Int.mul_eq_zero.1 hk with h1 | h1
      · omega
      · exact h1

theorem c_low (p q : Int) (w : World) (hp : -4611686018427387904 ≤ p) (hp' : p ≤ 4611686018427387904) (hq : -4611686018427387904 ≤ q) (hq' : q ≤ 4611686018427387904) (h0 : Int.gcd p q ≠ 0) :
    Calls Tryz.prog 146 #[.int .i64 p, .int .i64 q] w fun e w' => e = .returned (.agg #[.int .i64 (low p q).1, .int .i64 (low p q).2]) ∧ Below w.heap.size w w' := by
  obtain ⟨lo, hlo⟩ : ∃ lo, low p q = lo := ⟨_, rfl⟩
  rw [hlo]
  have HG := Lib.hid (fun w1 => c_gcd p q w1 (by omega) (by omega) (by omega) (by omega))
  have hg1 : ((Int.gcd p q : Nat) : Int) ∣ p := Int.gcd_dvd_left p q
  have hg2 : ((Int.gcd p q : Nat) : Int) ∣ q := Int.gcd_dvd_right p q
  have hgp : 0 < ((Int.gcd p q : Nat) : Int) := by omega
  obtain ⟨gg, hgg⟩ : ∃ gg : Int, ((Int.gcd p q : Nat) : Int) = gg := ⟨_, rfl⟩
  have hgb : gg ≤ 4611686018427387904 := by
    rw [← hgg]
    by_cases hp0 : p = 0
    · subst hp0
      rw [Int.gcd_zero_left]; omega
    · have := Nat.le_of_dvd (by omega) (Int.natAbs_dvd_natAbs.2 (Int.gcd_dvd_left p q)); rw [Int.natAbs_natCast] at this; omega
  have HL := Lib.hid (show lo = if q < 0 ∨ (q = 0 ∧ p < 0) then (-(p.tdiv gg), -(q.tdiv gg)) else (p.tdiv gg, q.tdiv gg) by rw [← hlo]; unfold low; rw [hgg])
  have b1 : -4611686018427387904 ≤ p.tdiv gg ∧ p.tdiv gg ≤ 4611686018427387904 := by have := tdiv_b (p := p) (g := gg) (K := 4611686018427387904) (by omega); omega
  have b2 : -4611686018427387904 ≤ q.tdiv gg ∧ q.tdiv gg ≤ 4611686018427387904 := by have := tdiv_b (p := q) (g := gg) (K := 4611686018427387904) (by omega); omega
  rw [hgg] at hgp
  have hg0 : gg ≠ 0 := by omega
  simp only [hgg] at HG
  clear hg1 hg2 h0 hgg hlo
  go_enter Tryz.func146, Tryz.ntmps146
  go_wp2_with fail
  all_goals obtain ⟨w0, hw0⟩ : ∃ w0, w.alloc (.cells #[.int .i64 0, .int .i64 0] 26) = w0 := ⟨_, rfl⟩
  rw [hw0]
  have X := Blk.new w 26 #[.int .i64 0, .int .i64 0]
  rw [hw0] at X
  have HB := Lib.hid (show Below w.heap.size w w0 from hw0 ▸ (Below.refl _ _).alloc (Nat.le_refl _) _)
  clear hw0
  refine (HG.out w0).mono ?_
  rintro e w1 ⟨rfl, k, rfl⟩
  have x0 : w0.cell? ⟨w.heap.size, 0, none⟩ = some (.int .i64 0) := X.at_ 0 rfl
  have x1 : w0.cell? ⟨w.heap.size, 1, none⟩ = some (.int .i64 0) := X.at_ 1 rfl
  have f0 : w0.frozen? ⟨w.heap.size, 0, none⟩ = false := X.free_ 0
  have f1 : w0.frozen? ⟨w.heap.size, 1, none⟩ = false := X.free_ 1
  have HB1 := Lib.hid (fun j => below_drewN' HB.out j)
  clear HG HB X
  by_cases hs : q < 0 ∨ (q = 0 ∧ p < 0)
  · obtain rfl : lo = (-(p.tdiv gg), -(q.tdiv gg)) := by rw [HL.out, if_pos hs]
    clear HL
    have hgn : -gg ≠ 0 := by omega
    rcases hs with hs | ⟨rfl, hs⟩
    · go_upto_region 4 with (fail)
      go_region
      all_goals go_wp2
      all_goals refine bodyPost_ret (by simp [results, Tryz.results146, go_sem, x0, x1]; try rfl) rfl ?_
      all_goals exact ⟨rfl, ((HB1.out _).setCell (Nat.le_refl _) _).setCell (Nat.le_refl _) _⟩
    · go_upto_region 4 with (fail)
      go_region
      all_goals go_wp2
      all_goals refine bodyPost_ret (by simp [results, Tryz.results146, go_sem, x0, x1]; try rfl) rfl ?_
      all_goals exact ⟨rfl, ((HB1.out _).setCell (Nat.le_refl _) _).setCell (Nat.le_refl _) _⟩
  · obtain rfl : lo = (p.tdiv gg, q.tdiv gg) := by rw [HL.out, if_neg hs]
    clear HL
    by_cases hq0 : q = 0
    · subst hq0
      have hp0 : ¬ p < 0 := fun h => hs (.inr ⟨rfl, h⟩)
      clear hs
      go_upto_region 4 with (fail)
      go_region
      all_goals go_wp2
      all_goals refine bodyPost_ret (by simp [results, Tryz.results146, go_sem, x0, x1]; try rfl) rfl ?_
      all_goals exact ⟨rfl, ((HB1.out _).setCell (Nat.le_refl _) _).setCell (Nat.le_refl _) _⟩
    · have hqn : ¬ q < 0 := fun h => hs (.inl h)
      clear hs
      go_upto_region 4 with (fail)
      go_region
      all_goals go_wp2
      all_goals refine bodyPost_ret (by simp [results, Tryz.results146, go_sem, x0, x1]; try rfl) rfl ?_
      all_goals exact ⟨rfl, ((HB1.out _).setCell (Nat.le_refl _) _).setCell (Nat.le_refl _) _⟩

theorem c_low18 (p q : Int) (w : World) (hp : -4611686018427387904 ≤ p) (hp' : p ≤ 4611686018427387904) (hq : -4611686018427387904 ≤ q) (hq' : q ≤ 4611686018427387904) (h0 : Int.gcd p q ≠ 0) :
    Calls Tryz.prog 202 #[.int .i64 p, .int .i64 q] w fun e w' => e = .returned (.agg #[.int .i64 (low p q).1, .int .i64 (low p q).2]) ∧ Below w.heap.size w w' := by
  obtain ⟨lo, hlo⟩ : ∃ lo, low p q = lo := ⟨_, rfl⟩
  rw [hlo]
  have HG := Lib.hid (fun w1 => c_gcd18 p q w1 (by omega) (by omega) (by omega) (by omega))
  have hg1 : ((Int.gcd p q : Nat) : Int) ∣ p := Int.gcd_dvd_left p q
  have hg2 : ((Int.gcd p q : Nat) : Int) ∣ q := Int.gcd_dvd_right p q
  have hgp : 0 < ((Int.gcd p q : Nat) : Int) := by omega
  obtain ⟨gg, hgg⟩ : ∃ gg : Int, ((Int.gcd p q : Nat) : Int) = gg := ⟨_, rfl⟩
  have hgb : gg ≤ 4611686018427387904 := by
    rw [← hgg]
    by_cases hp0 : p = 0
    · subst hp0
      rw [Int.gcd_zero_left]; omega
    · have := Nat.le_of_dvd (by omega) (Int.natAbs_dvd_natAbs.2 (Int.gcd_dvd_left p q)); rw [Int.natAbs_natCast] at this; omega
  have HL := Lib.hid (show lo = if q < 0 ∨ (q = 0 ∧ p < 0) then (-(p.tdiv gg), -(q.tdiv gg)) else (p.tdiv gg, q.tdiv gg) by rw [← hlo]; unfold low; rw [hgg])
  have b1 : -4611686018427387904 ≤ p.tdiv gg ∧ p.tdiv gg ≤ 4611686018427387904 := by have := tdiv_b (p := p) (g := gg) (K := 4611686018427387904) (by omega); omega
  have b2 : -4611686018427387904 ≤ q.tdiv gg ∧ q.tdiv gg ≤ 4611686018427387904 := by have := tdiv_b (p := q) (g := gg) (K := 4611686018427387904) (by omega); omega
  obtain ⟨s1, s2⟩ := tdiv_sgn hgp hg2
  obtain ⟨s3, _⟩ := tdiv_sgn hgp hg1
  rw [hgg] at s1 s2 s3
  rw [hgg] at hgp
  have hg0 : gg ≠ 0 := by omega
  simp only [hgg] at HG
  clear hg1 hg2 h0 hgg hlo
  go_enter Tryz.func202, Tryz.ntmps202
  go_wp2_with fail
  all_goals obtain ⟨w0, hw0⟩ : ∃ w0, w.alloc (.cells #[.int .i64 0, .int .i64 0] 26) = w0 := ⟨_, rfl⟩
  rw [hw0]
  have X := Blk.new w 26 #[.int .i64 0, .int .i64 0]
  rw [hw0] at X
  have HB := Lib.hid (show Below w.heap.size w w0 from hw0 ▸ (Below.refl _ _).alloc (Nat.le_refl _) _)
  clear hw0
  refine (HG.out w0).mono ?_
  rintro e w1 ⟨rfl, k, rfl⟩
  have x0 : w0.cell? ⟨w.heap.size, 0, none⟩ = some (.int .i64 0) := X.at_ 0 rfl
  have x1 : w0.cell? ⟨w.heap.size, 1, none⟩ = some (.int .i64 0) := X.at_ 1 rfl
  have f0 : w0.frozen? ⟨w.heap.size, 0, none⟩ = false := X.free_ 0
  have f1 : w0.frozen? ⟨w.heap.size, 1, none⟩ = false := X.free_ 1
  have HB1 := Lib.hid (fun j => below_drewN' HB.out j)
  clear HG HB X
  go_upto_region 2 with (fail)
  go_region
  go_upto_region 3 with (fail)
  generalize p.tdiv gg = u at *
  generalize q.tdiv gg = v at *
  by_cases hs : q < 0 ∨ (q = 0 ∧ p < 0)
  · obtain rfl : lo = (-u, -v) := by rw [HL.out, if_pos hs]
    clear HL
    by_cases hv : v < 0
    · clear hs s1 s2 s3
      go_wp2
      refine bodyPost_ret (by simp [results, Tryz.results202, go_sem, x0, x1]; try rfl) rfl ?_
      exact ⟨rfl, ((HB1.out _).setCell (Nat.le_refl _) _).setCell (Nat.le_refl _) _⟩
    · obtain rfl : v = 0 := by omega
      have hu : u < 0 := by omega
      clear hs s1 s2 s3 hv
      go_wp2
      refine bodyPost_ret (by simp [results, Tryz.results202, go_sem, x0, x1]; try rfl) rfl ?_
      exact ⟨rfl, ((HB1.out _).setCell (Nat.le_refl _) _).setCell (Nat.le_refl _) _⟩
  · obtain rfl : lo = (u, v) := by rw [HL.out, if_neg hs]
    clear HL
    by_cases hv : v = 0
    · subst hv
      have hu : ¬ u < 0 := by omega
      clear hs s1 s2 s3
      go_wp2
      refine bodyPost_ret (by simp [results, Tryz.results202, go_sem, x0, x1]; try rfl) rfl ?_
      exact ⟨rfl, ((HB1.out _).setCell (Nat.le_refl _) _).setCell (Nat.le_refl _) _⟩
    · have hv2 : ¬ v < 0 := by omega
      clear hs s1 s2 s3
      go_wp2
      refine bodyPost_ret (by simp [results, Tryz.results202, go_sem, x0, x1]; try rfl) rfl ?_
      exact ⟨rfl, ((HB1.out _).setCell (Nat.le_refl _) _).setCell (Nat.le_refl _) _⟩
end Go.Proofs.YthikonjlgljikaaGreatDoor
