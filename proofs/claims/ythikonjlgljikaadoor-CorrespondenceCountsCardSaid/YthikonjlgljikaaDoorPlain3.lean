/- The lists of matrices and factors of T_n, as both programs make them. -/
import Derived.Test.YthikonjlgljikaaDoorPlain2
namespace Go.Proofs.YthikonjlgljikaaDoor.Pl
abbrev Cos := (Nat × Nat × Nat) × Int
def cosRow (chi : Nat → Int) (n a b : Nat) : List Cos := (List.range b).map fun j => ((a, j, n / a), chi a)
def cosAt (chi : Nat → Int) (N n : Nat) : Nat → List Cos
  | 0 => []
  | k+1 => cosAt chi N n k ++ (if n % (k + 1) = 0 ∧ Nat.gcd (k + 1) N = 1 then cosRow chi n (k + 1) (n / (k + 1)) else [])
theorem cosRow_succ (chi : Nat → Int) (n a b : Nat) : cosRow chi n a (b + 1) = cosRow chi n a b ++ [((a, b, n / a), chi a)] := by
  unfold cosRow; rw [List.range_succ, List.map_append]; rfl
theorem cosRow_len (chi : Nat → Int) (n a b : Nat) : (cosRow chi n a b).length = b := by unfold cosRow; simp
theorem cosAt_len (chi : Nat → Int) (N n : Nat) : ∀ k, (cosAt chi N n k).length ≤ k * n
  | 0 => by simp [cosAt]
  | k+1 => by
    have := cosAt_len chi N n k
    rw [cosAt, List.length_append, Nat.succ_mul]
    split
    · rw [cosRow_len]; have := Nat.div_le_self n (k + 1); omega
    · simp; omega
theorem cosAt_yes {chi : Nat → Int} {N n k : Nat} (h : n % (k + 1) = 0) (h' : Nat.gcd (k + 1) N = 1) : cosAt chi N n (k + 1) = cosAt chi N n k ++ cosRow chi n (k + 1) (n / (k + 1)) := by
  rw [cosAt, if_pos ⟨h, h'⟩]
theorem cosAt_no {chi : Nat → Int} {N n k : Nat} (h : n % (k + 1) ≠ 0 ∨ Nat.gcd (k + 1) N ≠ 1) : cosAt chi N n (k + 1) = cosAt chi N n k := by
  rw [cosAt, if_neg (fun hh => by rcases h with h | h; exact h hh.1; exact h hh.2), List.append_nil]
theorem cosAt_congr {chi chi' : Nat → Int} {N n : Nat} : ∀ k, (∀ a, 0 < a → a ≤ k → Nat.gcd a N = 1 → chi a = chi' a) → cosAt chi N n k = cosAt chi' N n k
  | 0, _ => rfl
  | k+1, h => by
    rw [cosAt, cosAt, cosAt_congr k (fun a h1 h2 h3 => h a h1 (by omega) h3)]
    split
    · rename_i hh
      unfold cosRow
      rw [h (k + 1) (by omega) (Nat.le_refl _) hh.2]
    · rfl
/-- The error of Cosets, and its list. -/
def cosE (N k D n : Int) : Int := if check N k D ≠ 0 then check N k D else if n < 1 ∨ 128 < n then 2 else 0
def cosL (chi : Nat → Int) (N k D n : Int) : List Cos := if cosE N k D n = 0 then cosAt chi N.toNat n.toNat n.toNat else []
theorem check_ok {N k D : Int} (h : check N k D = 0) : (1 ≤ N ∧ N ≤ 120) ∧ (2 ≤ k ∧ k ≤ 24) ∧ (-120 ≤ D ∧ D ≤ 120) ∧ fund D = true ∧ N % D = 0 := by
  unfold check at h
  by_cases h1 : N < 1 ∨ 120 < N ∨ k < 2 ∨ 24 < k ∨ D < -120 ∨ 120 < D
  · rw [if_pos h1] at h; cases h
  · rw [if_neg h1] at h
    by_cases h2 : fund D = false
    · rw [if_pos h2] at h; cases h
    · rw [if_neg h2] at h
      by_cases h3 : N % D ≠ 0
      · rw [if_pos h3] at h; cases h
      · refine ⟨by omega, by omega, by omega, by simpa using h2, by omega⟩
theorem cosE_ok {N k D n : Int} (h : cosE N k D n = 0) : check N k D = 0 ∧ 1 ≤ n ∧ n ≤ 128 := by
  unfold cosE at h
  by_cases h1 : check N k D ≠ 0
  · rw [if_pos h1] at h; exact absurd h h1
  · rw [if_neg h1] at h
    by_cases h2 : n < 1 ∨ 128 < n
    · rw [if_pos h2] at h; cases h
    · exact ⟨by omega, by omega, by omega⟩
/-- The program's list is the reference's. -/
theorem cosL_eq (N k D n : Int) : cosL (kroP D) N k D n = cosL (chiR N.toNat D) N k D n := by
  unfold cosL
  split
  · rename_i h
    obtain ⟨h1, h2, h3⟩ := cosE_ok h
    obtain ⟨⟨a1, a2⟩, _, ⟨a3, a4⟩, a5, a6⟩ := check_ok h1
    refine cosAt_congr _ (fun a b1 b2 b3 => (chi_eq (by omega) (by omega) a3 a4 a5 ?_ b1 (by omega) b3).symm)
    rw [show ((N.toNat : Nat) : Int) = N from by omega]; exact a6
  · rfl
end Go.Proofs.YthikonjlgljikaaDoor.Pl
