/- Long division: the state of the loop over the digits. Plain facts, and facts on rows of digits. Integers as the program has them, a sign and digits: raw and normalized. Contract of slices.Clone at []uint32. -/
import Derived.Test.YthikonjlgljikaaGreatDoorLs11
import Derived.Lib.SliceRun
namespace Go.Proofs.YthikonjlgljikaaGreatDoor
open Go.RowKit

/-- Two slices without leading zeros are returned. -/
def RetNN (w' : World) (e : Ending) (q r : Nat) : Prop := ∃ p c p' c', e = .returned (.tuple #[.slice p (nd q) c, .slice p' (nd r) c']) ∧ Nm w' p c q ∧ Nm w' p' c' r

theorem shf_shf (a : Nat → Nat) (m k : Nat) : shf (shf a m) k = shf a (m + k) := by
  funext i; unfold shf; rw [Nat.add_assoc]
theorem vf_shf_head (r : Nat → Nat) (k n : Nat) : vf (shf r k) (n + 1) = r k + 4294967296 * vf (shf r (k + 1)) n := by
  rw [vf_head, shf_shf]; rfl
/-- The state of a long division: k digits of the quotient are still to come. -/
def LongAt (w : World) (gu gq N M k : Nat) (r0 : Nat → Nat) (V : Nat) : Prop :=
  ∃ r q, Row w gu (M + N) r ∧ Row w gq M q ∧ (∀ l, l < k → r l = r0 l) ∧ vf (shf r k) N = vf (shf r0 k) (M + N - k) % V ∧ vf (shf q k) (M - k) = vf (shf r0 k) (M + N - k) / V
theorem long_start {w : World} {gu gq N M V : Nat} {r0 q : Nat → Nat} (hu : Row w gu (M + N) r0) (hq : Row w gq M q) (hV : vf (shf r0 M) N < V) : LongAt w gu gq N M M r0 V := by
  refine ⟨r0, q, hu, hq, fun _ _ => rfl, ?_, ?_⟩
  · rw [show M + N - M = N from by omega, Nat.mod_eq_of_lt hV]
  · rw [show M + N - M = N from by omega, Nat.sub_self, Nat.div_eq_of_lt hV]; rfl
/-- The window in which the next digit is found. -/
theorem long_window {N k V X : Nat} {r r0 : Nat → Nat} (hlow : ∀ l, l < k + 1 → r l = r0 l) (hval : vf (shf r (k + 1)) N = X % V) (hV : 0 < V) : vf (shf r k) (N + 1) = r0 k + 4294967296 * (X % V) ∧ (r0 k < 4294967296 → vf (shf r k) (N + 1) < V * 4294967296) := by
  have h1 : vf (shf r k) (N + 1) = r0 k + 4294967296 * (X % V) := by rw [vf_shf_head, hval, hlow k (by omega)]
  refine ⟨h1, fun h2 => ?_⟩
  rw [h1]
  have h3 := Nat.mod_lt X hV
  omega
theorem long_digit {x X V : Nat} (hV : 0 < V) : (x + 4294967296 * X) / V = (x + 4294967296 * (X % V)) / V + 4294967296 * (X / V) ∧ (x + 4294967296 * X) % V = (x + 4294967296 * (X % V)) % V := by
  have h : x + 4294967296 * X = (x + 4294967296 * (X % V)) + V * (4294967296 * (X / V)) := by
    have := Nat.div_add_mod X V
    generalize X / V = Q at *
    generalize X % V = R at *
    rw [← this]
    grind
  rw [h]
  exact ⟨Nat.add_mul_div_left _ _ hV, Nat.add_mul_mod_self_left _ _ _⟩
theorem long_step {w : World} {gu gq N M k V X Q : Nat} {r r0 r' q : Nat → Nat} (hk : k < M) (hX : vf (shf r0 (k + 1)) (M + N - (k + 1)) = X) (hlow : ∀ l, l < k + 1 → r l = r0 l)
    (hu : Row w gu (M + N) r') (hkeep : ∀ l, l < k ∨ k + N < l → r' l = r l) (hrem : vf (shf r' k) (N + 1) = (r0 k + 4294967296 * (X % V)) % V)
    (hq : Row w gq M q) (hqv : vf (shf q (k + 1)) (M - (k + 1)) = X / V) (hV : 0 < V) (hVB : V ≤ 4294967296 ^ N) (hQ : (r0 k + 4294967296 * (X % V)) / V = Q) (hQl : Q < 4294967296) (hne : gq ≠ gu) :
    LongAt (w.setCell ⟨gq, k, none⟩ (.int .u32 Q)) gu gq N M k r0 V := by
  refine ⟨r', upd q k Q, ⟨hu.1.of_block (Below.heap_setCell w ⟨gq, k, none⟩ _ gu (Ne.symm hne)), hu.2⟩, hq.set k Q hQl, fun l hl => by rw [hkeep l (.inl hl)]; exact hlow l (by omega), ?_, ?_⟩
  · have h1 : vf (shf r0 k) (M + N - k) = r0 k + 4294967296 * X := by
      rw [show M + N - k = (M + N - (k + 1)) + 1 from by omega, vf_shf_head, hX]
    have h2 := (long_digit (x := r0 k) (X := X) hV).2
    rw [h1, h2, ← hrem]
    have h3 := Nat.mod_lt (r0 k + 4294967296 * (X % V)) hV
    rw [← hrem, vf] at h3
    rw [vf]
    rcases Nat.eq_zero_or_pos (shf r' k N) with h4 | h4
    · rw [h4]; simp
    · exfalso
      have h5 := Nat.mul_le_mul_left (4294967296 ^ N) (show 1 ≤ shf r' k N from h4)
      omega
  · have h1 : vf (shf r0 k) (M + N - k) = r0 k + 4294967296 * X := by
      rw [show M + N - k = (M + N - (k + 1)) + 1 from by omega, vf_shf_head, hX]
    have h2 := (long_digit (x := r0 k) (X := X) hV).1
    rw [h1, h2, hQ, ← hqv, show M - k = (M - (k + 1)) + 1 from by omega, vf_shf_head]
    rw [show upd q k Q k = Q from by simp [upd]]
    congr 2
    exact vf_congr fun i _ => by unfold shf upd; rw [if_neg (by omega)]
theorem long_end {w : World} {gu gq N M V : Nat} {r0 : Nat → Nat} (h : LongAt w gu gq N M 0 r0 V) :
    ∃ r q, Row w gu (M + N) r ∧ Row w gq M q ∧ vf r N = vf r0 (M + N) % V ∧ vf q M = vf r0 (M + N) / V := by
  obtain ⟨r, q, h1, h2, _, h4, h5⟩ := h
  have e : ∀ a : Nat → Nat, shf a 0 = a := fun a => by funext i; unfold shf; rw [Nat.zero_add]
  simp only [e, Nat.sub_zero] at h4 h5
  exact ⟨r, q, h1, h2, h4, h5⟩
theorem lt_bitLenAux : ∀ (f x : Nat), x < 2 ^ f → x < 2 ^ Lib.bitLenAux f x
  | 0, x, h => by simpa [Lib.bitLenAux] using h
  | f + 1, x, h => by
    rw [Lib.bitLenAux]
    by_cases h0 : x = 0
    · rw [if_pos h0, h0]; simp
    · rw [if_neg h0]
      have h1 := lt_bitLenAux f (x / 2) (by rw [Nat.pow_succ] at h; omega)
      rw [Nat.add_comm, Nat.pow_succ]
      omega
theorem lt_bitLen (t : Nat) (h : t < 2 ^ 64) : t < 2 ^ Lib.bitLen t := lt_bitLenAux 64 t h
theorem bitLen_pos (t : Nat) (h : t ≠ 0) : 1 ≤ Lib.bitLen t := by
  unfold Lib.bitLen
  rw [show (64 : Nat) = 63 + 1 from rfl, Lib.bitLenAux, if_neg h]
  omega
theorem bitLen_ge (t : Nat) (h0 : t ≠ 0) : 2 ^ (Lib.bitLen t - 1) ≤ t := by
  rcases Nat.lt_or_ge t (2 ^ (Lib.bitLen t - 1)) with h | h
  · exfalso
    have h1 := Lib.bitLenAux_le 64 t _ h
    have h2 := bitLen_pos t h0
    unfold Lib.bitLen at h1 h2
    omega
  · exact h
/-- The divisor, moved so that its first digit has its highest bit. -/
theorem lz_facts {v t s : Nat} (hv : v ≠ 0) (ht : v / 4294967296 ^ (nd v - 1) = t) (hs : s + Lib.bitLen t = 32) :
    s < 32 ∧ t < 4294967296 ∧ nd (v * 2 ^ s) = nd v ∧ 2147483648 ≤ dg (v * 2 ^ s) (nd v - 1) ∧ v * 2 ^ s < 4294967296 ^ (nd v) ∧ 4294967296 ^ (nd v - 1) * 2147483648 ≤ v * 2 ^ s := by
  obtain ⟨m, hm⟩ : ∃ m, nd v = m + 1 := ⟨nd v - 1, by have := nd_pos.2 hv; omega⟩
  have h1 := nd_top hv
  have h2 := nd_le.1 (Nat.le_refl (nd v))
  rw [hm] at h1 h2 ht
  rw [hm]
  simp only [Nat.add_sub_cancel] at *
  have hP : 0 < 4294967296 ^ m := Dig.pow_pos m
  have t0 : t ≠ 0 := by
    have : 1 ≤ v / 4294967296 ^ m := (Nat.le_div_iff_mul_le hP).2 (by omega)
    omega
  have t1 : t < 4294967296 := by rw [← ht, Nat.div_lt_iff_lt_mul hP, ← pow_succ']; exact h2
  have l3 := lt_bitLen t (by omega)
  have l2 := bitLen_ge t t0
  have l1 := bitLen_pos t t0
  generalize Lib.bitLen t = L at *
  obtain ⟨l, rfl⟩ : ∃ l, L = l + 1 := ⟨L - 1, by omega⟩
  have hs1 : s < 32 := by omega
  have e1 : 2 ^ s * 2 ^ (l + 1) = 4294967296 := by rw [← Nat.pow_add, hs]
  have e2 : 2 ^ s * 2 ^ l = 2147483648 := by rw [Nat.pow_succ, ← Nat.mul_assoc] at e1; omega
  simp only [Nat.add_sub_cancel] at l2
  have v1 : 4294967296 ^ m * t ≤ v := by rw [← ht]; exact Nat.mul_div_le _ _
  have v2 : v < 4294967296 ^ m * (t + 1) := by rw [← ht]; exact Nat.lt_mul_div_succ _ hP
  obtain ⟨P, hPm⟩ : ∃ P, 4294967296 ^ m = P := ⟨_, rfl⟩
  rw [hPm] at hP v1 v2 ⊢
  have a1 : P * 2147483648 ≤ v * 2 ^ s := by
    have h5 := Nat.mul_le_mul_left P (Nat.mul_le_mul_left (2 ^ s) l2)
    have h6 := Nat.mul_le_mul_right (2 ^ s) v1
    rw [e2] at h5
    have e3 : P * (2 ^ s * t) = P * t * 2 ^ s := by grind
    omega
  have a2 : v * 2 ^ s < 4294967296 * P := by
    have h5 := Nat.mul_le_mul_left P (Nat.mul_le_mul_left (2 ^ s) (show t + 1 ≤ 2 ^ (l + 1) from l3))
    have h6 := Nat.mul_lt_mul_of_pos_right v2 (Nat.two_pow_pos s)
    rw [e1] at h5
    have e3 : P * (2 ^ s * (t + 1)) = P * (t + 1) * 2 ^ s := by grind
    omega
  have n1 : nd (v * 2 ^ s) = m + 1 := by
    have h5 := (nd_le (v := v * 2 ^ s) (k := m + 1)).2 (by rw [pow_succ']; exact hPm ▸ a2)
    have h6 : ¬ nd (v * 2 ^ s) ≤ m := fun h7 => by
      have h8 := nd_le.1 h7
      rw [hPm] at h8
      have h9 := Nat.mul_le_mul_left P (show 1 ≤ 2147483648 by omega)
      omega
    omega
  refine ⟨hs1, t1, n1, ?_, by rw [pow_succ', hPm]; exact a2, a1⟩
  unfold dg
  rw [hPm]
  have h5 : 2147483648 ≤ v * 2 ^ s / P := (Nat.le_div_iff_mul_le hP).2 (by rw [Nat.mul_comm]; exact a1)
  have h6 : v * 2 ^ s / P < 4294967296 := by rw [Nat.div_lt_iff_lt_mul hP]; exact a2
  rw [Nat.mod_eq_of_lt h6]; exact h5
end Go.Proofs.YthikonjlgljikaaGreatDoor
namespace Go.Proofs.YthikonjlgljikaaGreatDoor
open Go.RowKit

/-- A sign and a size. -/
def sg (s : Bool) (m : Nat) : Int := if s then -(m : Int) else (m : Int)
theorem sg_abs (s : Bool) (m : Nat) : (sg s m).natAbs = m := by unfold sg; split <;> omega
theorem sg_neg (s : Bool) (m : Nat) : decide (sg s m < 0) = (s && decide (m ≠ 0)) := by
  cases s
  · simp [sg]
  · simp only [sg, if_true, Bool.true_and, decide_eq_decide]; omega
theorem sg_same (s : Bool) (u v : Nat) : sg s u + sg s v = sg s (u + v) := by unfold sg; split <;> omega
theorem sg_less (s : Bool) (u v : Nat) (h : v ≤ u) : sg s u + sg (!s) v = sg s (u - v) := by cases s <;> simp [sg] <;> omega
theorem sg_more (s : Bool) (u v : Nat) (h : u ≤ v) : sg s u + sg (!s) v = sg (!s) (v - u) := by cases s <;> simp [sg] <;> omega
theorem sg_mul (s t : Bool) (u v : Nat) : sg s u * sg t v = sg (s != t) (u * v) := by
  cases s <;> cases t <;> simp [sg, Int.neg_mul, Int.mul_neg]
theorem sg_not (s : Bool) (u : Nat) : sg (!s) u = - sg s u := by cases s <;> simp [sg]
theorem sg_false (u : Nat) : sg false u = u := rfl
theorem sg_self (z : Int) : sg (decide (z < 0)) z.natAbs = z := by
  by_cases h : z < 0
  · rw [decide_eq_true h]; simp only [sg, if_true]; omega
  · rw [decide_eq_false h]; simp only [sg, Bool.false_eq_true, if_false]; omega

/-- A raw integer: sign s, digits in a slice; its value is z. -/
def Zr (w : World) (s : Bool) (p : Option Addr) (n c : Nat) (z : Int) : Prop := ∃ a, Dg w p c n a ∧ sg s (vf a n) = z
/-- A normalized integer. -/
def Zs (w : World) (s : Bool) (p : Option Addr) (n c : Nat) (z : Int) : Prop := s = decide (z < 0) ∧ nd z.natAbs = n ∧ Nm w p c z.natAbs
theorem Zr.keep {w w' : World} {s : Bool} {p : Option Addr} {n c : Nat} {z : Int} (h : Zr w s p n c z) (hb : Below w.heap.size w w') : Zr w' s p n c z := by
  obtain ⟨a, h1, h2⟩ := h
  exact ⟨a, h1.keep hb, h2⟩
theorem Zs.keep {w w' : World} {s : Bool} {p : Option Addr} {n c : Nat} {z : Int} (h : Zs w s p n c z) (hb : Below w.heap.size w w') : Zs w' s p n c z := ⟨h.1, h.2.1, h.2.2.keep hb⟩
theorem Zs.raw {w : World} {s : Bool} {p : Option Addr} {n c : Nat} {z : Int} (h : Zs w s p n c z) : Zr w s p n c z := by
  obtain ⟨h1, h2, h3⟩ := h
  unfold Nm at h3
  rw [h2] at h3
  exact ⟨_, h3, by rw [h1, ← h2, vf_nd, sg_self]⟩
/-- The size of a raw integer. -/
theorem Zr.size {w : World} {s : Bool} {p : Option Addr} {n c : Nat} {z : Int} (h : Zr w s p n c z) : nd z.natAbs ≤ n := by
  obtain ⟨a, h1, h2⟩ := h
  rw [← h2, sg_abs]
  exact nd_le.2 (vf_lt h1.lt)
/-- A normalized integer is returned. -/
def RetZ (w' : World) (e : Ending) (z : Int) : Prop := ∃ s p n c, e = .returned (.agg #[.bool s, .slice p n c]) ∧ Zs w' s p n c z
/-- What signed returns. -/
theorem zs_of {w : World} {p : Option Addr} {c m k : Nat} {s t : Bool} (h : Nm w p c m) (hk : nd m = k) (ht : t = (s && decide (0 < k))) : Zs w t p k c (sg s m) := by
  refine ⟨?_, by rw [sg_abs]; exact hk, by rw [sg_abs]; exact h⟩
  rw [sg_neg, ht, ← hk]
  congr 1
  rw [decide_eq_decide]
  exact nd_pos

/-- The cells of n digits. -/
def cells32 (a : Nat → Nat) (n : Nat) : List Value := (List.range n).map fun i => .int .u32 (a i : Nat)
theorem cells32_len (a : Nat → Nat) (n : Nat) : (cells32 a n).length = n := by simp [cells32]
theorem cells32_get {a : Nat → Nat} {n j : Nat} (h : j < n) : (cells32 a n)[j]? = some (.int .u32 (a j : Nat)) := by simp [cells32, h]
theorem cells32_of {a : Nat → Nat} {n j : Nat} {u : Value} (h : (cells32 a n)[j]? = some u) : j < n ∧ u = .int .u32 (a j : Nat) := by
  have h1 : j < n := by
    rcases Nat.lt_or_ge j n with h1 | h1
    · exact h1
    · rw [List.getElem?_eq_none (by rw [cells32_len]; exact h1)] at h; cases h
  rw [cells32_get h1] at h
  injection h with h
  exact ⟨h1, h.symm⟩
theorem cells32_one {a : Nat → Nat} {n : Nat} : ∀ u ∈ cells32 a n, u.oneCell' = true := by
  intro u hu
  obtain ⟨i, _, rfl⟩ := List.mem_map.1 hu
  rfl
theorem Dg.of_own {w : World} {B n : Nat} {v : Value} {a : Nat → Nat} (h : w.ownsRow B 187 1 v n (cells32 a n)) (hl : ∀ j, j < n → a j < 4294967296) : ∃ p c, v = .slice p n c ∧ Dg w p c n a := by
  rcases own_shape h with ⟨rfl, rfl, _⟩ | ⟨g, cap, rfl, _, hg, hc⟩
  · exact ⟨none, 0, rfl, Nat.le_refl _, hl, .inl rfl⟩
  · exact ⟨_, _, rfl, hc, hl, .inr ⟨g, 0, rfl, hg, fun j hj => by rw [Nat.zero_add]; exact own_read h (cells32_get hj)⟩⟩
theorem u32U : Tryz.prog.underlying 31 = some (.slice 187) := Tryz.underlying31

set_option maxHeartbeats 2000000 in
set_option maxRecDepth 100000 in
theorem c_Clone (p : Option Addr) (c n : Nat) (a : Nat → Nat) (w : World) (h : Dg w p c n a) (hn : n ≤ 35184372088830) :
    Calls Tryz.prog 168 #[.slice p n c] w fun e w' => RetD w' e n (vf a n) ∧ Below w.heap.size w w' := by
  cases p with
  | none =>
    obtain rfl : n = 0 := by
      rcases h.at' with h1 | ⟨g, o, e, _⟩
      · exact h1
      · cases e
    clear h
    have q22 : ∀ (w : World) (a : Option Addr) (n c n' c' : Nat), (binOp .eql 31 (.slice a n c) (.slice none n' c')).run Tryz.prog w = .ok (.bool a.isNone) w := fun w a n c n' c' => Lib.run_eql_slice_nil w _ _ a n c n' c' u32U
    go_enter Tryz.func168, Tryz.ntmps168
    go_wp2
    go_ret
    exact ⟨⟨none, 0, a, rfl, ⟨Nat.le_refl _, fun j hj => absurd hj (Nat.not_lt_zero _), .inl rfl⟩, rfl⟩, Below.refl _ _⟩
  | some q =>
    have hcell : ∀ (o : Obj) (j : Nat) (u : Value), (cells32 a n)[j]? = some u → (w.alloc o).cell? (q.add j) = some u := by
      intro o j u hu
      obtain ⟨hj, rfl⟩ := cells32_of hu
      obtain ⟨g, o', e, hg, hc⟩ := h.head (by omega)
      injection e with e
      subst e
      rw [Addr.add_lit]
      exact Lib.cell?_alloc_some _ (hc j hj)
    have HC := Lib.hid hcell
    have HL := Lib.hid h.lt
    have HN := Lib.hid hn
    clear hcell h hn
    obtain ⟨i0, hi, hz0, hz1, hz2⟩ := info_parts u32Info
    have q22 : ∀ (w : World) (a : Option Addr) (n c n' c' : Nat), (binOp .eql 31 (.slice a n c) (.slice none n' c')).run Tryz.prog w = .ok (.bool a.isNone) w := fun w a n c n' c' => Lib.run_eql_slice_nil w _ _ a n c n' c' u32U
    go_enter Tryz.func168, Tryz.ntmps168
    go_wp2_with (at_builtin; refine wpList_append_own _ rfl _ _ 31 rfl w.heap.size 187 i0 (.int .u32 0) 1 4 u32U hi hz0 hz1 hz2 rfl (by decide) _ _ _ rfl (World.ownsRow_made w #[] 0 (Nat.le_refl _) (Nat.zero_le _) rfl) q n c (cells32 a n) rfl ?qc1 ?qc2 ?qc3 ?qc4 ?qc5 ?qc6 ?_)
    case qc1 => rw [cells32_len, Nat.mul_one]
    case qc2 => exact HC.out _
    case qc3 => exact cells32_one
    case qc4 => have := HN.out; unfold maxLen; omega
    case qc5 => have := HN.out; omega
    case qc6 => simp
    intro v' w1 hown hgrow hnil
    have hb : Below w.heap.size w w1 := ((Below.refl _ w).alloc (Nat.le_refl _) _).grown hgrow (by simp) (by intro k hk; simp [Value.ownBlock] at hk; omega)
    obtain ⟨p', c', rfl, hd⟩ := Dg.of_own (n := n) (a := a) (by simpa using hown) HL.out
    have HD := Lib.hid hd
    have HB := Lib.hid hb
    clear hown hgrow hnil hd hb
    go_wp2
    go_ret
    exact ⟨⟨p', c', a, rfl, HD.out, rfl⟩, HB.out⟩
end Go.Proofs.YthikonjlgljikaaGreatDoor
