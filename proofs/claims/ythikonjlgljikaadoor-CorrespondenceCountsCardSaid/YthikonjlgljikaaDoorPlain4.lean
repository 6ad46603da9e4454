/- How many matrices T_n has: a finite look, by the kernel. -/
import Derived.Test.YthikonjlgljikaaDoorPlain3
namespace Go.Proofs.YthikonjlgljikaaDoor.Pl
def cntAt (N n : Nat) : Nat → Nat
  | 0 => 0
  | k+1 => cntAt N n k + (if n % (k + 1) = 0 ∧ Nat.gcd (k + 1) N = 1 then n / (k + 1) else 0)
theorem cnt_eq (chi : Nat → Int) (N n : Nat) : ∀ k, (cosAt chi N n k).length = cntAt N n k
  | 0 => rfl
  | k+1 => by
    rw [cosAt, cntAt, List.length_append, cnt_eq chi N n k]
    split
    · rw [cosRow_len]
    · rfl
def cnt (N n : Nat) : Nat := cntAt N n n
def primeGo : Nat → Nat → Nat → Bool
  | 0, _, _ => true
  | f+1, p, n => if p * p ≤ n then (if n % p = 0 then false else primeGo f (p + 1) n) else true
def primeB (n : Nat) : Bool := if n < 2 then false else primeGo (n + 1) 2 n
def chkCnt (N : Nat) : Bool :=
  let t := (List.range 65).map (cnt N)
  (List.range 65).all fun a => decide (a = 0) || ((decide (N % a = 0 ∨ primeB a = false) || (t.getD a 0 == a + 1)) && (decide (N % a ≠ 0 ∨ primeB a = false) || (t.getD a 0 == a)) &&
    (List.range (64 / a + 1)).all fun b => decide (b = 0) || (Nat.gcd a b != 1) || (t.getD (a * b) 0 == t.getD a 0 * t.getD b 0))
def chkCntRow (i : Nat) : Bool := (List.range 20).all fun j => chkCnt (20 * i + j + 1)
theorem cnt0 : chkCntRow 0 = true := by decide +kernel
theorem cnt1 : chkCntRow 1 = true := by decide +kernel
theorem cnt2 : chkCntRow 2 = true := by decide +kernel
theorem cnt3 : chkCntRow 3 = true := by decide +kernel
theorem cnt4 : chkCntRow 4 = true := by decide +kernel
theorem cnt5 : chkCntRow 5 = true := by decide +kernel
theorem cntRow_all : ∀ i, i < 6 → chkCntRow i = true
  | 0, _ => cnt0 | 1, _ => cnt1 | 2, _ => cnt2 | 3, _ => cnt3 | 4, _ => cnt4 | 5, _ => cnt5
  | n + 6, h => absurd h (by omega)
theorem chkCnt_at {N : Nat} (h0 : 0 < N) (h1 : N ≤ 120) : chkCnt N = true := by
  have h := cntRow_all ((N - 1) / 20) (by omega)
  unfold chkCntRow at h
  rw [List.all_eq_true] at h
  have h2 := h ((N - 1) % 20) (List.mem_range.2 (Nat.mod_lt _ (by omega)))
  rw [Nat.div_add_mod, show N - 1 + 1 = N from by omega] at h2
  exact h2
theorem t_at {N n : Nat} (h : n < 65) : ((List.range 65).map (cnt N)).getD n 0 = cnt N n := by
  rw [List.getD_eq_getElem?_getD, List.getElem?_map, List.getElem?_range h]; rfl
theorem cnt_facts {N a : Nat} (h0 : 0 < N) (h1 : N ≤ 120) (ha : 0 < a) (ha' : a ≤ 64) :
    (primeB a = true → cnt N a = if N % a = 0 then a else a + 1) ∧ ∀ b, 0 < b → a * b ≤ 64 → Nat.gcd a b = 1 → cnt N (a * b) = cnt N a * cnt N b := by
  have h := chkCnt_at h0 h1
  unfold chkCnt at h
  simp only [List.all_eq_true] at h
  have h2 := h a (List.mem_range.2 (by omega))
  have hb : ∀ b, 0 < b → a * b ≤ 64 → b ≤ 64 / a := fun b _ hab => by
    rw [Nat.le_div_iff_mul_le ha, Nat.mul_comm]; exact hab
  simp only [Bool.or_eq_true, decide_eq_true_eq, Bool.and_eq_true, beq_iff_eq, bne_iff_ne, List.all_eq_true, List.mem_range] at h2
  obtain ⟨⟨p1, p2⟩, p3⟩ := h2.resolve_left (by omega)
  rw [t_at (by omega)] at p1 p2
  constructor
  · intro hp
    split
    · rename_i hd
      exact p2.resolve_left (by rintro (h | h); exact h hd; rw [hp] at h; cases h)
    · rename_i hd
      exact p1.resolve_left (by rintro (h | h); exact hd h; rw [hp] at h; cases h)
  · intro b hb0 hab hg
    have h4 := p3 b (by have := hb b hb0 hab; omega)
    have hbl : b ≤ 64 := Nat.le_trans (Nat.le_mul_of_pos_left b ha) hab
    rw [t_at (by omega), t_at (by omega), t_at (by omega)] at h4
    rcases h4 with (h4 | h4) | h4
    · omega
    · exact absurd hg h4
    · exact h4
end Go.Proofs.YthikonjlgljikaaDoor.Pl
