/- Long division: the state of the loop over the digits. Plain facts, and facts on rows of digits. Integers as the program has them, a sign and digits: raw and normalized. Contract of slices.Clone at []uint32. Contract of bigint's divide. Contracts of bigint's divide (all ways), signed, common. -/
import Derived.Test.YthikonjlgljikaaGreatDoorIm411
import Derived.Lib.SliceRun
namespace Go.Proofs.YthikonjlgljikaaGreatDoor
open Go.RowKit

/-- Two slices without leading zeros are returned. -/
def RetNN (w' : World) (e : Ending) (q r : Nat) : Prop := ∃ p c p' c', e = .returned (.tuple #[.slice p (nd q) c, .slice p' (nd r) c']) ∧ Nm w' p c q ∧ Nm w' p' c' r

theorem shf_shf (a : Nat → Nat) (m k : Nat) : shf (shf a m) k = shf a (m + k) := by
  funext i; unfold shf; rw [Nat.add_assoc]
theorem vf_shf_head (r : Nat → Nat) (k n : Nat) : vf (shf r k) (n + 1) = r k + 4294967296 * vf (shf r (k + 1)) n := by
  rw [vf_head, shf_shf]; rfl
/-- The state of a long division: k digits of the quotient are still to come. -/
def LongAt (w : World) (gu gq N M k : Nat) (r0 : Nat → Nat) (V : Nat) : Prop :=
  ∃ r q, Row w gu (M + N) r ∧ Row w gq M q ∧ (∀ l, l < k → r l = r0 l) ∧ vf (shf r k) N = vf (shf r0 k) (M + N - k) % V ∧ vf (shf q k) (M - k) = vf (shf r0 k) (M + N - k) / V
theorem long_start {w : World} {gu gq N M V : Nat} {r0 q : Nat → Nat} (hu : Row w gu (M + N) r0) (hq : Row w gq M q) (hV : vf (shf r0 M) N < V) : LongAt w gu gq N M M r0 V := by
  refine ⟨r0, q, hu, hq, fun _ _ => rfl, ?_, ?_⟩
  · rw [show M + N - M = N from by omega, Nat.mod_eq_of_lt hV]
  · rw [show M + N - M = N from by omega, Nat.sub_self, Nat.div_eq_of_lt hV]; rfl
/-- The window in which the next digit is found. -/
theorem long_window {N k V X : Nat} {r r0 : Nat → Nat} (hlow : ∀ l, l < k + 1 → r l = r0 l) (hval : vf (shf r (k + 1)) N = X % V) (hV : 0 < V) : vf (shf r k) (N + 1) = r0 k + 4294967296 * (X % V) ∧ (r0 k < 4294967296 → vf (shf r k) (N + 1) < V * 4294967296) := by
  have h1 : vf (shf r k) (N + 1) = r0 k + 4294967296 * (X % V) := by rw [vf_shf_head, hval, hlow k (by omega)]
  refine ⟨h1, fun h2 => ?_⟩
  rw [h1]
  have h3 := Nat.mod_lt X hV
  omega
theorem long_digit {x X V : Nat} (hV : 0 < V) : (x + 4294967296 * X) / V = (x + 4294967296 * (X % V)) / V + 4294967296 * (X / V) ∧ (x + 4294967296 * X) % V = (x + 4294967296 * (X % V)) % V := by
  have h : x + 4294967296 * X = (x + 4294967296 * (X % V)) + V * (4294967296 * (X / V)) := by
    have := Nat.div_add_mod X V
    generalize X / V = Q at *
    generalize X % V = R at *
    rw [← this]
    grind
  rw [h]
  exact ⟨Nat.add_mul_div_left _ _ hV, Nat.add_mul_mod_self_left _ _ _⟩
theorem long_step {w : World} {gu gq N M k V X Q : Nat} {r r0 r' q : Nat → Nat} (hk : k < M) (hX : vf (shf r0 (k + 1)) (M + N - (k + 1)) = X) (hlow : ∀ l, l < k + 1 → r l = r0 l)
    (hu : Row w gu (M + N) r') (hkeep : ∀ l, l < k ∨ k + N < l → r' l = r l) (hrem : vf (shf r' k) (N + 1) = (r0 k + 4294967296 * (X % V)) % V)
    (hq : Row w gq M q) (hqv : vf (shf q (k + 1)) (M - (k + 1)) = X / V) (hV : 0 < V) (hVB : V ≤ 4294967296 ^ N) (hQ : (r0 k + 4294967296 * (X % V)) / V = Q) (hQl : Q < 4294967296) (hne : gq ≠ gu) :
    LongAt (w.setCell ⟨gq, k, none⟩ (.int .u32 Q)) gu gq N M k r0 V := by
  refine ⟨r', upd q k Q, ⟨hu.1.of_block (Below.heap_setCell w ⟨gq, k, none⟩ _ gu (Ne.symm hne)), hu.2⟩, hq.set k Q hQl, fun l hl => by rw [hkeep l (.inl hl)]; exact hlow l (by omega), ?_, ?_⟩
  · have h1 : vf (shf r0 k) (M + N - k) = r0 k + 4294967296 * X := by
      rw [show M + N - k = (M + N - (k + 1)) + 1 from by omega, vf_shf_head, hX]
    have h2 := (long_digit (x := r0 k) (X := X) hV).2
    rw [h1, h2, ← hrem]
    have h3 := Nat.mod_lt (r0 k + 4294967296 * (X % V)) hV
    rw [← hrem, vf] at h3
    rw [vf]
    rcases Nat.eq_zero_or_pos (shf r' k N) with h4 | h4
    · rw [h4]; simp
    · exfalso
      have h5 := Nat.mul_le_mul_left (4294967296 ^ N) (show 1 ≤ shf r' k N from h4)
      omega
  · have h1 : vf (shf r0 k) (M + N - k) = r0 k + 4294967296 * X := by
      rw [show M + N - k = (M + N - (k + 1)) + 1 from by omega, vf_shf_head, hX]
    have h2 := (long_digit (x := r0 k) (X := X) hV).1
    rw [h1, h2, hQ, ← hqv, show M - k = (M - (k + 1)) + 1 from by omega, vf_shf_head]
    rw [show upd q k Q k = Q from by simp [upd]]
    congr 2
    exact vf_congr fun i _ => by unfold shf upd; rw [if_neg (by omega)]
theorem long_end {w : World} {gu gq N M V : Nat} {r0 : Nat → Nat} (h : LongAt w gu gq N M 0 r0 V) :
    ∃ r q, Row w gu (M + N) r ∧ Row w gq M q ∧ vf r N = vf r0 (M + N) % V ∧ vf q M = vf r0 (M + N) / V := by
  obtain ⟨r, q, h1, h2, _, h4, h5⟩ := h
  have e : ∀ a : Nat → Nat, shf a 0 = a := fun a => by funext i; unfold shf; rw [Nat.zero_add]
  simp only [e, Nat.sub_zero] at h4 h5
  exact ⟨r, q, h1, h2, h4, h5⟩
theorem lt_bitLenAux : ∀ (f x : Nat), x < 2 ^ f → x < 2 ^ Lib.bitLenAux f x
  | 0, x, h => by simpa [Lib.bitLenAux] using h
  | f + 1, x, h => by
    rw [Lib.bitLenAux]
    by_cases h0 : x = 0
    · rw [if_pos h0, h0]; simp
    · rw [if_neg h0]
      have h1 := lt_bitLenAux f (x / 2) (by rw [Nat.pow_succ] at h; omega)
      rw [Nat.add_comm, Nat.pow_succ]
      omega
theorem lt_bitLen (t : Nat) (h : t < 2 ^ 64) : t < 2 ^ Lib.bitLen t := lt_bitLenAux 64 t h
theorem bitLen_pos (t : Nat) (h : t ≠ 0) : 1 ≤ Lib.bitLen t := by
  unfold Lib.bitLen
  rw [show (64 : Nat) = 63 + 1 from rfl, Lib.bitLenAux, if_neg h]
  omega
theorem bitLen_ge (t : Nat) (h0 : t ≠ 0) : 2 ^ (Lib.bitLen t - 1) ≤ t := by
  rcases Nat.lt_or_ge t (2 ^ (Lib.bitLen t - 1)) with h | h
  · exfalso
    have h1 := Lib.bitLenAux_le 64 t _ h
    have h2 := bitLen_pos t h0
    unfold Lib.bitLen at h1 h2
    omega
  · exact h
/-- The divisor, moved so that its first digit has its highest bit. -/
theorem lz_facts {v t s : Nat} (hv : v ≠ 0) (ht : v / 4294967296 ^ (nd v - 1) = t) (hs : s + Lib.bitLen t = 32) :
    s < 32 ∧ t < 4294967296 ∧ nd (v * 2 ^ s) = nd v ∧ 2147483648 ≤ dg (v * 2 ^ s) (nd v - 1) ∧ v * 2 ^ s < 4294967296 ^ (nd v) ∧ 4294967296 ^ (nd v - 1) * 2147483648 ≤ v * 2 ^ s := by
  obtain ⟨m, hm⟩ : ∃ m, nd v = m + 1 := ⟨nd v - 1, by have := nd_pos.2 hv; omega⟩
  have h1 := nd_top hv
  have h2 := nd_le.1 (Nat.le_refl (nd v))
  rw [hm] at h1 h2 ht
  rw [hm]
  simp only [Nat.add_sub_cancel] at *
  have hP : 0 < 4294967296 ^ m := Dig.pow_pos m
  have t0 : t ≠ 0 := by
    have : 1 ≤ v / 4294967296 ^ m := (Nat.le_div_iff_mul_le hP).2 (by omega)
    omega
  have t1 : t < 4294967296 := by rw [← ht, Nat.div_lt_iff_lt_mul hP, ← pow_succ']; exact h2
  have l3 := lt_bitLen t (by omega)
  have l2 := bitLen_ge t t0
  have l1 := bitLen_pos t t0
  generalize Lib.bitLen t = L at *
  obtain ⟨l, rfl⟩ : ∃ l, L = l + 1 := ⟨L - 1, by omega⟩
  have hs1 : s < 32 := by omega
  have e1 : 2 ^ s * 2 ^ (l + 1) = 4294967296 := by rw [← Nat.pow_add, hs]
  have e2 : 2 ^ s * 2 ^ l = 2147483648 := by rw [Nat.pow_succ, ← Nat.mul_assoc] at e1; omega
  simp only [Nat.add_sub_cancel] at l2
  have v1 : 4294967296 ^ m * t ≤ v := by rw [← ht]; exact Nat.mul_div_le _ _
  have v2 : v < 4294967296 ^ m * (t + 1) := by rw [← ht]; exact Nat.lt_mul_div_succ _ hP
  obtain ⟨P, hPm⟩ : ∃ P, 4294967296 ^ m = P := ⟨_, rfl⟩
  rw [hPm] at hP v1 v2 ⊢
  have a1 : P * 2147483648 ≤ v * 2 ^ s := by
    have h5 := Nat.mul_le_mul_left P (Nat.mul_le_mul_left (2 ^ s) l2)
    have h6 := Nat.mul_le_mul_right (2 ^ s) v1
    rw [e2] at h5
    have e3 : P * (2 ^ s * t) = P * t * 2 ^ s := by grind
    omega
  have a2 : v * 2 ^ s < 4294967296 * P := by
    have h5 := Nat.mul_le_mul_left P (Nat.mul_le_mul_left (2 ^ s) (show t + 1 ≤ 2 ^ (l + 1) from l3))
    have h6 := Nat.mul_lt_mul_of_pos_right v2 (Nat.two_pow_pos s)
    rw [e1] at h5
    have e3 : P * (2 ^ s * (t + 1)) = P * (t + 1) * 2 ^ s := by grind
    omega
  have n1 : nd (v * 2 ^ s) = m + 1 := by
    have h5 := (nd_le (v := v * 2 ^ s) (k := m + 1)).2 (by rw [pow_succ']; exact hPm ▸ a2)
    have h6 : ¬ nd (v * 2 ^ s) ≤ m := fun h7 => by
      have h8 := nd_le.1 h7
      rw [hPm] at h8
      have h9 := Nat.mul_le_mul_left P (show 1 ≤ 2147483648 by omega)
      omega
    omega
  refine ⟨hs1, t1, n1, ?_, by rw [pow_succ', hPm]; exact a2, a1⟩
  unfold dg
  rw [hPm]
  have h5 : 2147483648 ≤ v * 2 ^ s / P := (Nat.le_div_iff_mul_le hP).2 (by rw [Nat.mul_comm]; exact a1)
  have h6 : v * 2 ^ s / P < 4294967296 := by rw [Nat.div_lt_iff_lt_mul hP]; exact a2
  rw [Nat.mod_eq_of_lt h6]; exact h5
end Go.Proofs.YthikonjlgljikaaGreatDoor
namespace Go.Proofs.YthikonjlgljikaaGreatDoor
open Go.RowKit

/-- A sign and a size. -/
def sg (s : Bool) (m : Nat) : Int := if s then -(m : Int) else (m : Int)
theorem sg_abs (s : Bool) (m : Nat) : (sg s m).natAbs = m := by unfold sg; split <;> omega
theorem sg_neg (s : Bool) (m : Nat) : decide (sg s m < 0) = (s && decide (m ≠ 0)) := by
  cases s
  · simp [sg]
  · simp only [sg, if_true, Bool.true_and, decide_eq_decide]; omega
theorem sg_same (s : Bool) (u v : Nat) : sg s u + sg s v = sg s (u + v) := by unfold sg; split <;> omega
theorem sg_less (s : Bool) (u v : Nat) (h : v ≤ u) : sg s u + sg (!s) v = sg s (u - v) := by cases s <;> simp [sg] <;> omega
theorem sg_more (s : Bool) (u v : Nat) (h : u ≤ v) : sg s u + sg (!s) v = sg (!s) (v - u) := by cases s <;> simp [sg] <;> omega
theorem sg_mul (s t : Bool) (u v : Nat) : sg s u * sg t v = sg (s != t) (u * v) := by
  cases s <;> cases t <;> simp [sg, Int.neg_mul, Int.mul_neg]
theorem sg_not (s : Bool) (u : Nat) : sg (!s) u = - sg s u := by cases s <;> simp [sg]
theorem sg_false (u : Nat) : sg false u = u := rfl
theorem sg_self (z : Int) : sg (decide (z < 0)) z.natAbs = z := by
  by_cases h : z < 0
  · rw [decide_eq_true h]; simp only [sg, if_true]; omega
  · rw [decide_eq_false h]; simp only [sg, Bool.false_eq_true, if_false]; omega

/-- A raw integer: sign s, digits in a slice; its value is z. -/
def Zr (w : World) (s : Bool) (p : Option Addr) (n c : Nat) (z : Int) : Prop := ∃ a, Dg w p c n a ∧ sg s (vf a n) = z
/-- A normalized integer. -/
def Zs (w : World) (s : Bool) (p : Option Addr) (n c : Nat) (z : Int) : Prop := s = decide (z < 0) ∧ nd z.natAbs = n ∧ Nm w p c z.natAbs
theorem Zr.keep {w w' : World} {s : Bool} {p : Option Addr} {n c : Nat} {z : Int} (h : Zr w s p n c z) (hb : Below w.heap.size w w') : Zr w' s p n c z := by
  obtain ⟨a, h1, h2⟩ := h
  exact ⟨a, h1.keep hb, h2⟩
theorem Zs.keep {w w' : World} {s : Bool} {p : Option Addr} {n c : Nat} {z : Int} (h : Zs w s p n c z) (hb : Below w.heap.size w w') : Zs w' s p n c z := ⟨h.1, h.2.1, h.2.2.keep hb⟩
theorem Zs.raw {w : World} {s : Bool} {p : Option Addr} {n c : Nat} {z : Int} (h : Zs w s p n c z) : Zr w s p n c z := by
  obtain ⟨h1, h2, h3⟩ := h
  unfold Nm at h3
  rw [h2] at h3
  exact ⟨_, h3, by rw [h1, ← h2, vf_nd, sg_self]⟩
/-- The size of a raw integer. -/
theorem Zr.size {w : World} {s : Bool} {p : Option Addr} {n c : Nat} {z : Int} (h : Zr w s p n c z) : nd z.natAbs ≤ n := by
  obtain ⟨a, h1, h2⟩ := h
  rw [← h2, sg_abs]
  exact nd_le.2 (vf_lt h1.lt)
/-- A normalized integer is returned. -/
def RetZ (w' : World) (e : Ending) (z : Int) : Prop := ∃ s p n c, e = .returned (.agg #[.bool s, .slice p n c]) ∧ Zs w' s p n c z
/-- What signed returns. -/
theorem zs_of {w : World} {p : Option Addr} {c m k : Nat} {s t : Bool} (h : Nm w p c m) (hk : nd m = k) (ht : t = (s && decide (0 < k))) : Zs w t p k c (sg s m) := by
  refine ⟨?_, by rw [sg_abs]; exact hk, by rw [sg_abs]; exact h⟩
  rw [sg_neg, ht, ← hk]
  congr 1
  rw [decide_eq_decide]
  exact nd_pos

/-- The cells of n digits. -/
def cells32 (a : Nat → Nat) (n : Nat) : List Value := (List.range n).map fun i => .int .u32 (a i : Nat)
theorem cells32_len (a : Nat → Nat) (n : Nat) : (cells32 a n).length = n := by simp [cells32]
theorem cells32_get {a : Nat → Nat} {n j : Nat} (h : j < n) : (cells32 a n)[j]? = some (.int .u32 (a j : Nat)) := by simp [cells32, h]
theorem cells32_of {a : Nat → Nat} {n j : Nat} {u : Value} (h : (cells32 a n)[j]? = some u) : j < n ∧ u = .int .u32 (a j : Nat) := by
  have h1 : j < n := by
    rcases Nat.lt_or_ge j n with h1 | h1
    · exact h1
    · rw [List.getElem?_eq_none (by rw [cells32_len]; exact h1)] at h; cases h
  rw [cells32_get h1] at h
  injection h with h
  exact ⟨h1, h.symm⟩
theorem cells32_one {a : Nat → Nat} {n : Nat} : ∀ u ∈ cells32 a n, u.oneCell' = true := by
  intro u hu
  obtain ⟨i, _, rfl⟩ := List.mem_map.1 hu
  rfl
theorem cells32_succ (a : Nat → Nat) (n : Nat) : cells32 a (n + 1) = cells32 a n ++ [.int .u32 (a n : Nat)] := by
  unfold cells32; rw [List.range_succ, List.map_append]; rfl
theorem Dg.of_own {w : World} {B n : Nat} {v : Value} {a : Nat → Nat} (h : w.ownsRow B 187 1 v n (cells32 a n)) (hl : ∀ j, j < n → a j < 4294967296) : ∃ p c, v = .slice p n c ∧ Dg w p c n a := by
  rcases own_shape h with ⟨rfl, rfl, _⟩ | ⟨g, cap, rfl, _, hg, hc⟩
  · exact ⟨none, 0, rfl, Nat.le_refl _, hl, .inl rfl⟩
  · exact ⟨_, _, rfl, hc, hl, .inr ⟨g, 0, rfl, hg, fun j hj => by rw [Nat.zero_add]; exact own_read h (cells32_get hj)⟩⟩
theorem u32U : Tryz.prog.underlying 31 = some (.slice 187) := Tryz.underlying31

set_option maxHeartbeats 2000000 in
set_option maxRecDepth 100000 in
theorem c_Clone (p : Option Addr) (c n : Nat) (a : Nat → Nat) (w : World) (h : Dg w p c n a) (hn : n ≤ 35184372088830) :
    Calls Tryz.prog 168 #[.slice p n c] w fun e w' => RetD w' e n (vf a n) ∧ Below w.heap.size w w' := by
  cases p with
  | none =>
    obtain rfl : n = 0 := by
      rcases h.at' with h1 | ⟨g, o, e, _⟩
      · exact h1
      · cases e
    clear h
    have q22 : ∀ (w : World) (a : Option Addr) (n c n' c' : Nat), (binOp .eql 31 (.slice a n c) (.slice none n' c')).run Tryz.prog w = .ok (.bool a.isNone) w := fun w a n c n' c' => Lib.run_eql_slice_nil w _ _ a n c n' c' u32U
    go_enter Tryz.func168, Tryz.ntmps168
    go_wp2
    go_ret
    exact ⟨⟨none, 0, a, rfl, ⟨Nat.le_refl _, fun j hj => absurd hj (Nat.not_lt_zero _), .inl rfl⟩, rfl⟩, Below.refl _ _⟩
  | some q =>
    have hcell : ∀ (o : Obj) (j : Nat) (u : Value), (cells32 a n)[j]? = some u → (w.alloc o).cell? (q.add j) = some u := by
      intro o j u hu
      obtain ⟨hj, rfl⟩ := cells32_of hu
      obtain ⟨g, o', e, hg, hc⟩ := h.head (by omega)
      injection e with e
      subst e
      rw [Addr.add_lit]
      exact Lib.cell?_alloc_some _ (hc j hj)
    have HC := Lib.hid hcell
    have HL := Lib.hid h.lt
    have HN := Lib.hid hn
    clear hcell h hn
    obtain ⟨i0, hi, hz0, hz1, hz2⟩ := info_parts u32Info
    have q22 : ∀ (w : World) (a : Option Addr) (n c n' c' : Nat), (binOp .eql 31 (.slice a n c) (.slice none n' c')).run Tryz.prog w = .ok (.bool a.isNone) w := fun w a n c n' c' => Lib.run_eql_slice_nil w _ _ a n c n' c' u32U
    go_enter Tryz.func168, Tryz.ntmps168
    go_wp2_with (at_builtin; refine wpList_append_own _ rfl _ _ 31 rfl w.heap.size 187 i0 (.int .u32 0) 1 4 u32U hi hz0 hz1 hz2 rfl (by decide) _ _ _ rfl (World.ownsRow_made w #[] 0 (Nat.le_refl _) (Nat.zero_le _) rfl) q n c (cells32 a n) rfl ?qc1 ?qc2 ?qc3 ?qc4 ?qc5 ?qc6 ?_)
    case qc1 => rw [cells32_len, Nat.mul_one]
    case qc2 => exact HC.out _
    case qc3 => exact cells32_one
    case qc4 => have := HN.out; unfold maxLen; omega
    case qc5 => have := HN.out; omega
    case qc6 => simp
    intro v' w1 hown hgrow hnil
    have hb : Below w.heap.size w w1 := ((Below.refl _ w).alloc (Nat.le_refl _) _).grown hgrow (by simp) (by intro k hk; simp [Value.ownBlock] at hk; omega)
    obtain ⟨p', c', rfl, hd⟩ := Dg.of_own (n := n) (a := a) (by simpa using hown) HL.out
    have HD := Lib.hid hd
    have HB := Lib.hid hb
    clear hown hgrow hnil hd hb
    go_wp2
    go_ret
    exact ⟨⟨p', c', a, rfl, HD.out, rfl⟩, HB.out⟩
end Go.Proofs.YthikonjlgljikaaGreatDoor
namespace Go.Proofs.YthikonjlgljikaaGreatDoor
open Go.RowKit

theorem Dg.nm {w : World} {p : Option Addr} {c k t : Nat} {r : Nat → Nat} (h : Dg w p c k r) (hv : vf r k = t) (hk : nd t = k) : Nm w p c t := by
  unfold Nm
  rw [hk]
  exact h.congr (by rw [← hv]; exact dg_vf h.lt)
theorem Nm.drewN {w : World} {p : Option Addr} {c v : Nat} (h : Nm w p c v) (n : Nat) : Nm (w.drewN n) p c v := h.keep (below_drewN' (Below.refl _ _) n)
theorem nn_small {w : World} {p : Option Addr} {c u v : Nat} (h : Nm w p c u) (huv : u < v) : RetNN w (.returned (.tuple #[.slice none 0 0, .slice p (nd u) c])) (u / v) (u % v) := by
  rw [Nat.div_eq_of_lt huv, Nat.mod_eq_of_lt huv]
  exact ⟨none, 0, p, c, rfl, Nm.nil _, h⟩
/-- A slice without leading zeros is returned; its length is a letter. -/
def RetO (w' : World) (e : Ending) (v : Nat) : Prop := ∃ p n c, e = .returned (.slice p n c) ∧ nd v = n ∧ Nm w' p c v
theorem RetN.op {w' : World} {e : Ending} {v : Nat} (h : RetN w' e v) : RetO w' e v := by
  obtain ⟨p, c, h1, h2⟩ := h
  exact ⟨p, _, c, h1, rfl, h2⟩
theorem nn_of {w : World} {p p' : Option Addr} {c c' n n' q r : Nat} (h1 : nd q = n) (h2 : nd r = n') (h3 : Nm w p c q) (h4 : Nm w p' c' r) : RetNN w (.returned (.tuple #[.slice p n c, .slice p' n' c'])) q r := by
  subst h1; subst h2
  exact ⟨p, c, p', c', rfl, h3, h4⟩
set_option maxRecDepth 100000 in
theorem c_div_small (p : Option Addr) (c u : Nat) (q : Option Addr) (d v : Nat) (w : World) (h1 : Nm w p c u) (h2 : Nm w q d v) (hu : nd u ≤ 35184372088830) (hv : nd v ≤ 35184372088830) (huv : u < v) :
    Calls Tryz.prog 214 #[.slice p (nd u) c, .slice q (nd v) d] w fun e w' => RetNN w' e (u / v) (u % v) ∧ Below w.heap.size w w' := by
  have HC := c_compare p c u q d v w h1 h2 (by omega) (by omega)
  rw [cmp_lt huv] at HC
  replace HC := Lib.hid HC
  have HCL := Lib.hid (fun k => c_Clone p c (nd u) (dg u) (w.drewN k) (h1.drewN k) hu)
  have HUV := Lib.hid huv
  clear h1 h2 huv
  go_enter Tryz.func214, Tryz.ntmps214
  go_wp2_with (go_at_call 181; refine HC.out.mono ?_; rintro e w' ⟨rfl, k, rfl⟩)
  refine (HCL.out k).mono ?_
  rintro e w1 ⟨⟨p1, c1, r1, rfl, hd, hv1⟩, hb⟩
  have hn : RetNN w1 (.returned (.tuple #[.slice none 0 0, .slice p1 (nd u) c1])) (u / v) (u % v) := nn_small (hd.nm (by rw [hv1, vf_nd]) rfl) HUV.out
  have hb2 : Below w.heap.size w w1 := (below_drewN' (Below.refl _ _) k).trans hb
  have HN := Lib.hid hn
  have HB := Lib.hid hb2
  clear hd hv1 hb hn hb2
  go_wp2
  go_ret2
  exact ⟨HN.out, HB.out⟩
theorem cmp_ge {u v : Nat} (h : v ≤ u) : ∃ s : Nat, Int.sign ((u : Int) - v) = s := by
  rcases Nat.lt_or_ge v u with h1 | h1
  · exact ⟨1, cmp_gt h1⟩
  · obtain rfl : u = v := by omega
    exact ⟨0, by simp⟩
theorem c_wordN (p : Option Addr) (c u : Nat) (w : World) (h : Nm w p c u) (hn : nd u ≤ 2) :
    Calls Tryz.prog 213 #[.slice p (nd u) c] w fun e w' => e = .returned (.int .u64 (u : Nat)) ∧ ∃ k, w' = w.drewN k := by
  have := c_word p c (nd u) (dg u) w h hn
  rw [vf_nd] at this
  exact this
theorem nd_le_two {u : Nat} (h : nd u ≤ 2) : u < 18446744073709551616 := by
  have := nd_le.1 h
  omega
set_option maxHeartbeats 400000 in
set_option maxRecDepth 100000 in
theorem c_div_word (p : Option Addr) (c u : Nat) (q : Option Addr) (d v : Nat) (w : World) (h1 : Nm w p c u) (h2 : Nm w q d v) (hu : nd u ≤ 2) (hv : 0 < v) (huv : v ≤ u) :
    Calls Tryz.prog 214 #[.slice p (nd u) c, .slice q (nd v) d] w fun e w' => RetNN w' e (u / v) (u % v) ∧ Below w.heap.size w w' := by
  have hvn : nd v ≤ 2 := Nat.le_trans (nd_mono huv) hu
  obtain ⟨s, hs⟩ := cmp_ge huv
  have hsd : decide ((s : Int) < 0) = false := decide_eq_false (by omega)
  have HC := c_compare p c u q d v w h1 h2 (by omega) (by omega)
  rw [hs] at HC
  replace HC := Lib.hid HC
  have H1 := Lib.hid (fun (w1 : World) (hb : Below w.heap.size w w1) => c_wordN p c u w1 (h1.keep hb) hu)
  have H2 := Lib.hid (fun (w1 : World) (hb : Below w.heap.size w w1) => c_wordN q d v w1 (h2.keep hb) hvn)
  have hul := nd_le_two hu
  have hvl := nd_le_two hvn
  obtain ⟨Q, hQ⟩ : ∃ Q, u / v = Q := ⟨_, rfl⟩
  obtain ⟨R, hR⟩ : ∃ R, u % v = R := ⟨_, rfl⟩
  have hQl : Q ≤ u := by rw [← hQ]; exact Nat.div_le_self _ _
  have hRl : R < v := by rw [← hR]; exact Nat.mod_lt _ hv
  have HQ := Lib.hid (fun w => (c_wide Q w (by omega)).mono (fun _ _ h => And.imp_left RetN.op h))
  have HR := Lib.hid (fun w => (c_wide R w (by omega)).mono (fun _ _ h => And.imp_left RetN.op h))
  have hqt : Int.tdiv (u : Int) (v : Int) = (Q : Nat) := by rw [Int.tdiv_eq_ediv_of_nonneg (by omega), ← hQ]; exact (Int.natCast_ediv _ _).symm
  have hrt : Int.tmod (u : Int) (v : Int) = (R : Nat) := by rw [Int.tmod_eq_emod_of_nonneg (by omega), ← hR]; exact (Int.natCast_emod _ _).symm
  have hqt2 : (u : Int) / (v : Int) = (Q : Nat) := by rw [← hQ]; exact (Int.natCast_ediv _ _).symm
  have hrt2 : (u : Int) % (v : Int) = (R : Nat) := by rw [← hR]; exact (Int.natCast_emod _ _).symm
  have hqw : IntKind.u64.wrap (Q : Int) = Q := by rw [IntKind.wrap_u64]; omega
  have hv0 : ((v : Int) == 0) = false := beq_eq_false_iff_ne.2 (by omega)
  have hv1 : (v : Int) ≠ 0 := by omega
  have hv2 : v ≠ 0 := by omega
  rw [hQ, hR]
  have hn2 : (nd u : Int) ≤ 2 := by omega
  clear h1 h2 huv hul hvl hs hQ hR hQl hRl hu hvn
  generalize nd u = n at *
  generalize nd v = m at *
  go_enter Tryz.func214, Tryz.ntmps214
  go_wp2_with fail
  refine HC.out.mono ?_
  rintro e w1 ⟨rfl, hq⟩
  have B1 := quiet_below hq
  have HB1 := Lib.hid B1
  clear hq B1
  go_wp2_with fail
  refine (H1.out _ HB1.out).mono ?_
  rintro e w2 ⟨rfl, hq⟩
  have B2 := HB1.out.trans ((quiet_below hq).mono HB1.out.size)
  have HB2 := Lib.hid B2
  clear hq B2
  go_wp2_with fail
  refine (H2.out _ HB2.out).mono ?_
  rintro e w3 ⟨rfl, hq⟩
  have B3 := HB2.out.trans ((quiet_below hq).mono HB2.out.size)
  have HB3 := Lib.hid B3
  clear hq B3
  go_upto_region 5 with (fail)
  have M1 : True := trivial
  go_region_held3 (fun _ => True) (exact trivial) (first | (go_at_call 120; clear M1; refine (HQ.out _).mono ?_; rintro e w4 ⟨⟨p1, n1, c1, rfl, hn1, hm1⟩, hb1⟩; replace hn1 := Lib.hid hn1; replace hm1 := Lib.hid hm1; replace hb1 := Lib.hid hb1) | (go_at_call 120; refine (HR.out _).mono ?_; rintro e w5 ⟨⟨p2, n2, c2, rfl, hn2, hm2⟩, hb2⟩; replace hn2 := Lib.hid hn2; replace hm2 := Lib.hid hm2; replace hb2 := Lib.hid hb2))
  go_wp2
  go_ret2
  exact ⟨nn_of hn1.out hn2.out (hm1.out.keep hb2.out) hm2.out, ((below_drewN' HB3.out 1).trans (hb1.out.mono HB3.out.size)).trans (hb2.out.mono (Nat.le_trans HB3.out.size hb1.out.size))⟩
theorem nd_eq_one {v : Nat} (h : nd v = 1) : dg v 0 = v ∧ v < 4294967296 ∧ v ≠ 0 := by
  have h1 := (nd_le (v := v) (k := 1)).1 (by omega)
  have h2 := nd_pos.1 (show 0 < nd v by omega)
  have h3 := vf_nd v
  rw [h, vf, vf] at h3
  refine ⟨by simpa using h3, by omega, h2⟩
set_option maxHeartbeats 400000 in
set_option maxRecDepth 100000 in
theorem c_div_short (p : Option Addr) (c u : Nat) (q : Option Addr) (d v : Nat) (w : World) (h1 : Nm w p c u) (h2 : Nm w q d v) (hu : 2 < nd u) (hul : nd u ≤ 35184372088830) (hv : nd v = 1) (huv : v ≤ u) :
    Calls Tryz.prog 214 #[.slice p (nd u) c, .slice q (nd v) d] w fun e w' => RetNN w' e (u / v) (u % v) ∧ Below w.heap.size w w' := by
  obtain ⟨hv1, hv2, hv0⟩ := nd_eq_one hv
  obtain ⟨s, hs⟩ := cmp_ge huv
  have hsd : decide ((s : Int) < 0) = false := decide_eq_false (by omega)
  have HC := c_compare p c u q d v w h1 h2 (by omega) (by omega)
  rw [hs] at HC
  replace HC := Lib.hid HC
  have HS := Lib.hid (fun (w1 : World) (hb : Below w.heap.size w w1) => c_short p c (nd u) (dg u) v w1 (Dg.keep h1 hb) (by omega) (by omega) (by omega))
  rw [vf_nd] at HS
  obtain ⟨g, o, rfl, hg, hcell⟩ := h2.head (by omega)
  have hc0 : ∀ w1, Below w.heap.size w w1 → w1.cell? ⟨g, o, none⟩ = some (.int .u32 (v : Nat)) := fun w1 hb => by
    have := (hb.cell (p := ⟨g, o, none⟩) hg).trans (hcell 0 (by omega))
    rw [hv1] at this
    exact this
  have HC0 := Lib.hid hc0
  obtain ⟨Q, hQ⟩ : ∃ Q, u / v = Q := ⟨_, rfl⟩
  obtain ⟨R, hR⟩ : ∃ R, u % v = R := ⟨_, rfl⟩
  have hRl : R < v := by rw [← hR]; exact Nat.mod_lt _ (by omega)
  have HW := Lib.hid (fun w => (c_wide R w (by omega)).mono (fun _ _ h => And.imp_left RetN.op h))
  rw [hQ, hR] at HS
  rw [hQ, hR, hv]
  rw [hv] at HC
  have hn2 : (2 : Int) < (nd u : Int) := by omega
  have hn2d : decide ((nd u : Int) ≤ 2) = false := decide_eq_false (by omega)
  have HUL := Lib.hid hul
  have HRI := Lib.hid (show (R : Int) < 4294967296 by omega)
  clear h1 h2 huv hs hQ hR hRl hu hcell hc0 hv hv1 hv2 hv0 hul
  generalize nd u = n at *
  go_enter Tryz.func214, Tryz.ntmps214
  go_wp2_with fail
  refine HC.out.mono ?_
  rintro e w1 ⟨rfl, hq⟩
  have B1 := quiet_below hq
  have HB1 := Lib.hid B1
  have c0 := HC0.out _ B1
  clear hq B1 HC HC0
  go_wp2_with fail
  refine (HS.out _ HB1.out).mono ?_
  rintro e w2 ⟨⟨p2, c2, r2, rfl, hd2, hv2⟩, hb2⟩
  have HT := Lib.hid (c_trimmed p2 c2 n r2 w2 hd2 (by have := HUL.out; omega))
  rw [hv2] at HT
  have B2 := HB1.out.trans (hb2.mono HB1.out.size)
  have HB2 := Lib.hid B2
  clear hb2 B2 hd2 hv2 HS c0
  go_wp2_with fail
  refine HT.out.mono ?_
  rintro e w3 ⟨⟨rfl, hm⟩, rfl⟩
  obtain ⟨k, hk⟩ : ∃ k, nd Q = k := ⟨_, rfl⟩
  rw [hk]
  have HM := Lib.hid hm
  have HK := Lib.hid hk
  have hRi := HRI.out
  clear HT hm hk
  go_wp2_with fail
  refine (HW.out _).mono ?_
  rintro e w4 ⟨⟨p4, n4, c4, rfl, hn4, hm4⟩, hb4⟩
  have hf := nn_of HK.out hn4 (HM.out.keep hb4) hm4
  have B4 := HB2.out.trans (hb4.mono HB2.out.size)
  have HF := Lib.hid hf
  have HB4 := Lib.hid B4
  clear hf B4 hb4 hn4 hm4
  go_wp2
  go_ret2
  exact ⟨HF.out, HB4.out⟩
/-- The first digit, and how far it is to be moved. -/
theorem lz_at {v : Nat} (hv : v ≠ 0) : ∃ t S, dg v (nd v - 1) = t ∧ t < 4294967296 ∧ S < 32 ∧ (32 - (Lib.bitLen t : Int)) = (S : Nat) ∧ nd (v * 2 ^ S) = nd v ∧ 2147483648 ≤ dg (v * 2 ^ S) (nd v - 1) ∧ v * 2 ^ S < 4294967296 ^ (nd v) ∧ 4294967296 ^ (nd v - 1) * 2147483648 ≤ v * 2 ^ S := by
  obtain ⟨m, hm⟩ : ∃ m, nd v = m + 1 := ⟨nd v - 1, by have := nd_pos.2 hv; omega⟩
  have h2 := nd_le.1 (Nat.le_refl (nd v))
  have hd : dg v (nd v - 1) = v / 4294967296 ^ (nd v - 1) := by
    unfold dg
    rw [hm] at h2 ⊢
    simp only [Nat.add_sub_cancel]
    rw [Nat.mod_eq_of_lt]
    rw [Nat.div_lt_iff_lt_mul (Dig.pow_pos m), ← pow_succ']
    exact h2
  obtain ⟨t, ht⟩ : ∃ t, v / 4294967296 ^ (nd v - 1) = t := ⟨_, rfl⟩
  have htl : t < 4294967296 := by rw [← ht, ← hd]; exact dg_lt _ _
  have hl : Lib.bitLen t ≤ 32 := Lib.bitLen_le t 32 (by omega) (by omega)
  obtain ⟨a1, a2, a3, a4, a5, a6⟩ := lz_facts (s := 32 - Lib.bitLen t) hv ht (by omega)
  exact ⟨t, 32 - Lib.bitLen t, hd.trans ht, htl, a1, by omega, a3, a4, a5, a6⟩
/-- The first window is less than the divisor. -/
theorem long_fits {n m M S u v : Nat} {r0 : Nat → Nat} (hr : ∀ i, i < n + 1 → r0 i < 4294967296) (hv : vf r0 (n + 1) = u * 2 ^ S) (hu : u < 4294967296 ^ n) (hM : M + m = n + 1) (hm : 0 < m) (hS : S < 32) (hV : 4294967296 ^ (m - 1) * 2147483648 ≤ v * 2 ^ S) : vf (shf r0 M) m < v * 2 ^ S := by
  have h1 := vf_div hr (i := M) (by omega)
  rw [show n + 1 - M = m from by omega, hv] at h1
  rw [← h1]
  have h2 := two_pow_le hS
  refine Nat.lt_of_lt_of_le ?_ hV
  rw [Nat.div_lt_iff_lt_mul (Dig.pow_pos M)]
  have h3 : 4294967296 ^ (m - 1) * 2147483648 * 4294967296 ^ M = 4294967296 ^ n * 2147483648 := by
    rw [show n = (m - 1) + M from by omega, Nat.pow_add]
    simp only [Nat.mul_comm, Nat.mul_left_comm]
  rw [h3]
  exact Nat.lt_of_lt_of_le (Nat.mul_lt_mul_of_pos_right hu (Nat.two_pow_pos S)) (Nat.mul_le_mul_left _ h2)
set_option maxHeartbeats 2000000 in
set_option maxRecDepth 100000 in
theorem c_div_long (p : Option Addr) (c u : Nat) (q : Option Addr) (d v : Nat) (w : World) (h1 : Nm w p c u) (h2 : Nm w q d v) (hu : 2 < nd u) (hul : nd u ≤ 35184372088830) (hv : 1 < nd v) (huv : v ≤ u) :
    Calls Tryz.prog 214 #[.slice p (nd u) c, .slice q (nd v) d] w fun e w' => RetNN w' e (u / v) (u % v) ∧ Below w.heap.size w w' := by
  have hv0 : v ≠ 0 := nd_pos.1 (by omega)
  have hvn := nd_mono huv
  obtain ⟨s, hs⟩ := cmp_ge huv
  have hsd : decide ((s : Int) < 0) = false := decide_eq_false (by omega)
  have HC := c_compare p c u q d v w h1 h2 (by omega) (by omega)
  rw [hs] at HC
  replace HC := Lib.hid HC
  obtain ⟨t, S, ht, htl, hS, hSe, hndV, htop, hVl, hVg⟩ := lz_at hv0
  obtain ⟨g, o, rfl, hg, hcell⟩ := h2.head (by omega)
  have hc0 : ∀ w1, Below w.heap.size w w1 → w1.cell? ⟨g, o + (nd v - 1), none⟩ = some (.int .u32 (t : Nat)) := fun w1 hb => by
    have := (hb.cell (p := ⟨g, o + (nd v - 1), none⟩) hg).trans (hcell (nd v - 1) (by omega))
    rw [ht] at this
    exact this
  have HC0 := Lib.hid hc0
  have HLZ := Lib.hid (fun w => c_Lz32 (t : Int) w (by omega) (by omega))
  rw [Int.toNat_natCast, hSe] at HLZ
  have H1 := Lib.hid (fun (w1 : World) (hb : Below w.heap.size w w1) => c_shifted p c (nd u) (dg u) S w1 (Dg.keep h1 hb) (by omega) (by omega))
  have H2 := Lib.hid (fun (w1 : World) (hb : Below w.heap.size w w1) => c_shifted (some ⟨g, o, none⟩) d (nd v) (dg v) S w1 (Dg.keep h2 hb) (by omega) (by omega))
  rw [vf_nd] at H1 H2
  have hun : u < 4294967296 ^ nd u := nd_le.1 (Nat.le_refl _)
  have hSi : (S : Int) < 32 := by omega
  have hn2 : (2 : Int) < (nd u : Int) := by omega
  have hn2d : decide ((nd u : Int) ≤ 2) = false := decide_eq_false (by omega)
  have hm1 : (1 : Int) < (nd v : Int) := by omega
  have hm1d : ((nd v : Int) == 1) = false := beq_eq_false_iff_ne.2 (by omega)
  have e1 : ((nd v : Int) - 1).toNat = nd v - 1 := by omega
  obtain ⟨V, hV⟩ : ∃ V, v * 2 ^ S = V := ⟨_, rfl⟩
  rw [hV] at H2 hndV htop hVl hVg
  have HVE := Lib.hid hV
  have HVP := Lib.hid (show 0 < V by rw [← hV]; exact Nat.mul_pos (by omega) (Nat.two_pow_pos S))
  obtain ⟨M, hM⟩ : ∃ M, M + nd v = nd u + 1 := ⟨nd u + 1 - nd v, by omega⟩
  have hMi : (nd u : Int) + 1 - (nd v : Int) = (M : Nat) := by omega
  have HM := Lib.hid hM
  have HTOP := Lib.hid htop
  have HVL := Lib.hid hVl
  have HVG := Lib.hid hVg
  have HUN := Lib.hid hun
  have HND := Lib.hid hndV
  have HUL := Lib.hid hul
  have hml : nd v ≤ 35184372088830 := by omega
  have hnl : nd u ≤ 35184372088830 := by omega
  have hMl : M ≤ 35184372088830 := by omega
  have HSS := Lib.hid hS
  have HV0 := Lib.hid (show 0 < v by omega)
  obtain ⟨Q, hQ⟩ : ∃ Q, u / v = Q := ⟨_, rfl⟩
  obtain ⟨R, hR⟩ : ∃ R, u % v = R := ⟨_, rfl⟩
  have HQ := Lib.hid hQ
  have HR := Lib.hid hR
  rw [hQ, hR]
  clear hV h1 h2 hu hul hv huv hv0 hvn hs ht hc0 htl hS hSe hndV htop hVl hVg hcell hun hM hQ hR
  generalize nd u = n at *
  generalize nd v = m at *
  go_enter Tryz.func214, Tryz.ntmps214
  go_wp2_with fail
  refine HC.out.mono ?_
  rintro e w1 ⟨rfl, hq⟩
  have B1 := quiet_below hq
  have HB1 := Lib.hid B1
  have c0 := HC0.out _ B1
  clear hq B1 HC HC0
  go_wp2_with fail
  refine (HLZ.out _).mono ?_
  rintro e w2 ⟨rfl, rfl⟩
  clear c0 HLZ
  go_wp2_with fail
  refine (H1.out _ HB1.out).mono ?_
  rintro e w3 ⟨⟨gu, cu, r0, rfl, hcu, hgu, hrow, hval⟩, hb3⟩
  have B3 := HB1.out.trans (hb3.mono HB1.out.size)
  have HB3 := Lib.hid B3
  have HROW := Lib.hid hrow
  have HVAL := Lib.hid hval
  have HGU := Lib.hid (Nat.le_trans HB1.out.size hgu)
  clear H1 HB1 B3 hb3 hrow hval hgu
  go_wp2_with fail
  refine (H2.out _ HB3.out).mono ?_
  rintro e w4 ⟨⟨gv, cv, rv, rfl, hcv, hgv, hrowv, hvalv⟩, hb4⟩
  have B4 := HB3.out.trans (hb4.mono HB3.out.size)
  have HT := c_trimmed (some ⟨gv, 0, none⟩) cv (m + 1) rv w4 (hrowv.dg cv hcv) (by have := HUL.out; have := HM.out; omega)
  rw [hvalv, HND.out] at HT
  have HT := Lib.hid HT
  have hne : gv ≠ gu := by have := HROW.out.1.lt; omega
  have HROW4 := Lib.hid (HROW.out.below hb4 HROW.out.1.lt)
  have HB4 := Lib.hid B4
  clear H2 HB3 B4 hb4 hrowv hvalv hgv hcv HROW
  go_wp2_with fail
  refine HT.out.mono ?_
  rintro e w5 ⟨⟨rfl, hmV⟩, rfl⟩
  have hdV : Dg w5 (some ⟨gv, 0, none⟩) cv m (dg V) := by
    unfold Nm at hmV
    rw [HND.out] at hmV
    exact hmV
  have hmk : ∀ w, (Instr.makeSlice 31 (.int .i64 (M : Int)) (.int .i64 (M : Int))).run Tryz.prog w = .ok (.slice (some ⟨w.heap.size, 0, none⟩) M M) (w.alloc (.cells (madeCells #[.int .u32 0] M) 187)) := make32 M (by omega)
  obtain ⟨w6, hw6⟩ : ∃ w6, w5.alloc (.cells (madeCells #[.int .u32 0] M) 187) = w6 := ⟨_, rfl⟩
  obtain ⟨gq, hgq⟩ : ∃ gq, w5.heap.size = gq := ⟨_, rfl⟩
  have hb6 : Below w5.heap.size w5 w6 := by rw [← hw6]; exact (Below.refl _ _).alloc (Nat.le_refl _) _
  have hrq := Row.made w5 M
  rw [hw6, hgq] at hrq
  have hgvl : gv < w5.heap.size := by
    obtain ⟨g', o', e', hg', _⟩ := hdV.head (by omega)
    injection e' with e'; injection e' with e1 e2; omega
  have hne2 : gq ≠ gu := by have := HROW4.out.1.lt; omega
  have hne3 : gv ≠ gq := by omega
  have hgqb : w.heap.size ≤ gq := by rw [← hgq]; exact HB4.out.size
  have hr0 : ∀ i, i < n + 1 → r0 i < 4294967296 := HROW4.out.2
  have hst : LongAt w6 gu gq m M M r0 V := long_start (by rw [HM.out]; exact HROW4.out.below hb6 HROW4.out.1.lt) hrq (by rw [← HVE.out]; exact long_fits hr0 HVAL.out HUN.out HM.out (by omega) HSS.out (by rw [HVE.out]; exact HVG.out))
  have HST := Lib.hid hst
  have HD6 := Lib.hid (hdV.below hb6 hgvl)
  have HB6 := Lib.hid (HB4.out.trans (hb6.mono HB4.out.size))
  have HR0 := Lib.hid hr0
  clear hst hdV hmV HT hrq hr0 hgvl
  go_wp2
  try rw [hgq, hw6]
  clear hw6 hgq hb6 HROW4 HB4 hmk
  go_loopw [14] (fun v14 wr => ∃ k : Nat, k ≤ M ∧ v14 = .int .i64 ((k : Int) - 1) ∧ LongAt wr gu gq m M k r0 V ∧ Dg wr (some ⟨gv, 0, none⟩) cv m (dg V) ∧ Below w.heap.size w wr) (fun v14 _ => (intOf v14 + 1).toNat)
  case atStart => exact ⟨M, Nat.le_refl _, by go_num, HST.out, HD6.out, HB6.out⟩
  case round =>
    clear HST HD6 HB6
    obtain ⟨k, hk, rfl, hl, hd, hb⟩ := hrel
    have HL := Lib.hid hl
    have HD := Lib.hid hd
    have HB := Lib.hid hb
    clear hl hd hb
    by_cases hk0 : k = 0
    · subst hk0
      obtain ⟨r, q, hru, hrq, hrv, hqv⟩ := long_end HL.out
      have hU : vf r0 (M + m) = u * 2 ^ S := by rw [HM.out]; exact HVAL.out
      rw [hU, ← HVE.out, Nat.mul_mod_mul_right] at hrv
      rw [hU, ← HVE.out, Nat.mul_div_mul_right _ _ (Nat.two_pow_pos S), HQ.out] at hqv
      rw [HR.out] at hrv
      have HT1 := c_trimmed (some ⟨gq, 0, none⟩) M M q wr.drew ((hrq.dg M (Nat.le_refl _)).keep (below_drewN' (Below.refl _ _) 1)) (by omega)
      have HU := c_unshifted (some ⟨gu, 0, none⟩) cu m r S wr.drew (((hru.dg cu (by have := HM.out; omega)).take (k := m) (by omega)).keep (below_drewN' (Below.refl _ _) 1)) (by omega) (by omega)
      rw [hqv] at HT1
      rw [hrv, Nat.mul_div_cancel _ (Nat.two_pow_pos S)] at HU
      obtain ⟨k1, hk1⟩ : ∃ k1, nd Q = k1 := ⟨_, rfl⟩
      rw [hk1] at HT1
      obtain ⟨k2, hk2⟩ : ∃ k2, nd R = k2 := ⟨_, rfl⟩
      replace HT1 := Lib.hid HT1
      replace HU := Lib.hid HU
      have HK1 := Lib.hid hk1
      have HK2 := Lib.hid hk2
      have hmcu : (m : Int) ≤ (cu : Int) := by have := HM.out; omega
      have M1 : True := trivial
      clear hru hrq hrv hqv hU hk1 hk2 HL HD
      go_upto_region 17 with (fail)
      go_region_held3 (fun _ => True) (exact trivial) (first
        | (go_at_call 124; clear M1; refine HT1.out.mono ?_; rintro e w' ⟨⟨rfl, hn1⟩, rfl⟩; replace hn1 := Lib.hid hn1)
        | (go_at_call 224; refine HU.out.mono ?_; rintro e w7 ⟨⟨p2, c2, r2, rfl, hd2, hv2⟩, hb2⟩; have HT2 := c_trimmed p2 c2 m r2 w7 hd2 (by omega); rw [hv2, HK2.out] at HT2; replace HT2 := Lib.hid HT2; replace hb2 := Lib.hid hb2; clear hd2 hv2)
        | (go_at_call 124; refine HT2.out.mono ?_; rintro e w' ⟨⟨rfl, hn2⟩, rfl⟩; replace hn2 := Lib.hid hn2))
      go_wp2
      go_ret2
      exact ⟨nn_of HK1.out HK2.out (hn1.out.keep hb2.out) hn2.out, (below_drewN' HB.out 1).trans (hb2.out.mono HB.out.size)⟩
    · obtain ⟨j, rfl⟩ : ∃ j, k = j + 1 := ⟨k - 1, by omega⟩
      have e14 : (((j + 1 : Nat) : Int) - 1) = (j : Int) := by omega
      rw [e14]
      obtain ⟨r, q, hru, hrq, hlow, hval, hqv⟩ := HL.out
      obtain ⟨X, hX⟩ : ∃ X, vf (shf r0 (j + 1)) (M + m - (j + 1)) = X := ⟨_, rfl⟩
      rw [hX] at hval hqv
      obtain ⟨hw1, hw2⟩ := long_window hlow hval HVP.out
      have DC := c_digit gu j (M + m) m (cu - j) gv 0 cv r (dg V) wr hru (by omega) (by omega) HD.out hne HTOP.out (by rw [vf_dg HVL.out]; exact hw2 (HR0.out j (by have := HM.out; omega))) (by omega)
      obtain ⟨Qd, hQd⟩ : ∃ Qd, (r0 j + 4294967296 * (X % V)) / V = Qd := ⟨_, rfl⟩
      have hQl : Qd < 4294967296 := by
        rw [← hQd, ← hw1, Nat.div_lt_iff_lt_mul HVP.out, Nat.mul_comm]
        exact hw2 (HR0.out j (by have := HM.out; omega))
      rw [vf_dg HVL.out, hw1, hQd] at DC
      have hst : ∀ w', Only gu wr w' → DigitAt w' gu (M + m) j m r ((r0 j + 4294967296 * (X % V)) % V) → (∃ y, w'.cell? ⟨gq, j, none⟩ = some y) ∧ w'.frozen? ⟨gq, j, none⟩ = false ∧ LongAt (w'.setCell ⟨gq, j, none⟩ (.int .u32 Qd)) gu gq m M j r0 V ∧ Dg (w'.setCell ⟨gq, j, none⟩ (.int .u32 Qd)) (some ⟨gv, 0, none⟩) cv m (dg V) ∧ Below w.heap.size w (w'.setCell ⟨gq, j, none⟩ (.int .u32 Qd)) := by
        intro w' hO ⟨r', hru', hkeep', hrem'⟩
        have hrq' := hO.row hrq hne2
        refine ⟨⟨_, hrq'.1.cell (by omega)⟩, hrq'.1.frozen _, ?_, ?_, ?_⟩
        · exact long_step (by omega) hX hlow hru' hkeep' hrem' hrq' hqv HVP.out (Nat.le_of_lt HVL.out) hQd hQl hne2
        · exact ((Only.refl gq w').set j _).dg (hO.dg HD.out hne) hne3
        · exact (HB.out.trans (hO.below HGU.out HB.out.size)).setCell hgqb _
      have HN := Lib.hid hst
      replace DC := Lib.hid DC
      have hj0 : decide ((0 : Int) ≤ (j : Int)) = true := decide_eq_true (by omega)
      have hjl : (j : Int) + m + 1 ≤ cu := by have := HM.out; omega
      have ej : j + m + 1 - j = m + 1 := by omega
      have hQi : (Qd : Int) < 4294967296 := by omega
      have HQI := Lib.hid hQi
      clear e14 hk0 hru hrq hlow hval hqv hX hw1 hw2 hQd hQl hst HL HD hQi
      go_wp2_with fail
      rw [ej]
      refine DC.out.mono ?_
      rintro e w' ⟨rfl, hO, hDa⟩
      obtain ⟨⟨y, hy⟩, hfz, hL, hD2, hB2⟩ := HN.out w' hO hDa
      have HL2 := Lib.hid hL
      have HD2 := Lib.hid hD2
      have HB2 := Lib.hid hB2
      clear hO hDa hL hD2 hB2 DC HN ej
      go_wp2
      go_roundw
      case rel => exact ⟨j, by omega, by go_num, HL2.out, HD2.out, HB2.out⟩
      case measure => simp [intOf]
end Go.Proofs.YthikonjlgljikaaGreatDoor
namespace Go.Proofs.YthikonjlgljikaaGreatDoor
open Go.RowKit

theorem c_divide (p : Option Addr) (c u : Nat) (q : Option Addr) (d v : Nat) (w : World) (h1 : Nm w p c u) (h2 : Nm w q d v) (hu : nd u ≤ 35184372088830) (hv : nd v ≤ 35184372088830) (hv0 : v ≠ 0) :
    Calls Tryz.prog 214 #[.slice p (nd u) c, .slice q (nd v) d] w fun e w' => RetNN w' e (u / v) (u % v) ∧ Below w.heap.size w w' := by
  rcases Nat.lt_or_ge u v with h | h
  · exact c_div_small p c u q d v w h1 h2 hu hv h
  · rcases Nat.lt_or_ge 2 (nd u) with h3 | h3
    · have h4 := nd_pos.2 hv0
      rcases Nat.lt_or_ge 1 (nd v) with h5 | h5
      · exact c_div_long p c u q d v w h1 h2 h3 hu h5 h
      · exact c_div_short p c u q d v w h1 h2 h3 hu (by omega) h
    · exact c_div_word p c u q d v w h1 h2 h3 (by omega) h
/-- A slice of digits, cut to its length without leading zeros. -/
theorem Dg.trim {w : World} {p : Option Addr} {c n : Nat} {a : Nat → Nat} (h : Dg w p c n a) : Nm w p c (vf a n) := by
  have hle : nd (vf a n) ≤ n := nd_le.2 (vf_lt h.lt)
  exact (h.take hle).congr fun j hj => dg_vf h.lt j (by omega)
theorem c_signed (neg : Bool) (p : Option Addr) (c n : Nat) (a : Nat → Nat) (w : World) (h : Dg w p c n a) (hn : n ≤ 70368744177664) :
    Calls Tryz.prog 119 #[.bool neg, .slice p n c] w fun e w' => RetZ w' e (sg neg (vf a n)) ∧ Below w.heap.size w w' := by
  have hb : ∀ o, Below w.heap.size w (w.alloc o) := fun o => (Below.refl _ _).alloc (Nat.le_refl _) o
  have HT := Lib.hid (fun w1 (hb : Below w.heap.size w w1) => c_trimmed p c n a w1 (h.keep hb) hn)
  have HN := Lib.hid h.trim
  obtain ⟨k, hk⟩ : ∃ k, nd (vf a n) = k := ⟨_, rfl⟩
  rw [hk] at HT
  have HK := Lib.hid hk
  have HB := Lib.hid hb
  clear h hk hb
  go_enter Tryz.func119, Tryz.ntmps119
  go_wp2_with fail
  refine (HT.out _ (HB.out _)).mono ?_
  rintro e w1 ⟨⟨rfl, hm⟩, rfl⟩
  clear HT hm
  cases neg with
  | false =>
    go_wp2
    go_returns
    exact ⟨⟨_, p, k, c, rfl, zs_of (HN.out.keep (HB.out _)) HK.out (by simp)⟩, HB.out _⟩
  | true =>
    go_wp2
    go_returns
    exact ⟨⟨_, p, k, c, rfl, zs_of (HN.out.keep (HB.out _)) HK.out (by simp)⟩, HB.out _⟩
theorem clone_nm (p : Option Addr) (c u : Nat) (w : World) (h : Nm w p c u) (hn : nd u ≤ 35184372088830) :
    Calls Tryz.prog 168 #[.slice p (nd u) c] w fun e w' => RetN w' e u ∧ Below w.heap.size w w' := by
  refine (c_Clone p c (nd u) (dg u) w h hn).mono ?_
  rintro e w' ⟨⟨p1, c1, r1, rfl, hd, hv⟩, hb⟩
  exact ⟨⟨p1, c1, rfl, hd.nm (by rw [hv, vf_nd]) rfl⟩, hb⟩
set_option maxHeartbeats 1000000 in
set_option maxRecDepth 100000 in
theorem c_common (p : Option Addr) (c u : Nat) (q : Option Addr) (d v : Nat) (w : World) (h1 : Nm w p c u) (h2 : Nm w q d v) (hu : nd u ≤ 35184372088830) (hv : nd v ≤ 35184372088830) :
    Calls Tryz.prog 183 #[.slice p (nd u) c, .slice q (nd v) d] w fun e w' => RetN w' e (Nat.gcd u v) ∧ Below w.heap.size w w' := by
  obtain ⟨G, hG⟩ : ∃ G, Nat.gcd u v = G := ⟨_, rfl⟩
  obtain ⟨n, hn⟩ : ∃ n, nd u = n := ⟨_, rfl⟩
  obtain ⟨m, hm⟩ : ∃ m, nd v = m := ⟨_, rfl⟩
  have HG := Lib.hid hG
  have H1 := Lib.hid h1
  have H2 := Lib.hid h2
  have HN := Lib.hid hn
  have HM := Lib.hid hm
  rw [hn] at hu
  rw [hm] at hv
  rw [hG, hn, hm]
  clear h1 h2 hn hm hG
  go_enter Tryz.func183, Tryz.ntmps183
  go_wp2
  go_loopg [0, 1] v (fun b v0 v1 wr => ∃ (a n m : Nat) (p q : Option Addr) (c d : Nat), v0 = .slice p n c ∧ v1 = .slice q m d ∧ nd a = n ∧ nd b = m ∧ n ≤ 35184372088830 ∧ m ≤ 35184372088830 ∧ Nm wr p c a ∧ Nm wr q d b ∧ Nat.gcd a b = G ∧ Below w.heap.size w wr)
  case atStart => exact ⟨u, n, m, p, q, c, d, rfl, rfl, HN.out, HM.out, hu, hv, H1.out, H2.out, HG.out, Below.refl _ _⟩
  case round =>
    clear H1 H2 HG HN HM hu hv n m c d p q u
    obtain ⟨a, n, m, p, q, c, d, rfl, rfl, hn, hm, hnl, hml, h1, h2, hG, hb⟩ := hrel
    have HB := Lib.hid hb
    have HG := Lib.hid hG
    by_cases hm0 : m = 0
    · subst hm0
      obtain rfl : gk = 0 := by
        have := nd_pos (v := gk); omega
      have hC := clone_nm p c a wr h1 (by omega)
      rw [hn] at hC
      rw [Nat.gcd_zero_right] at hG
      subst hG
      replace hC := Lib.hid hC
      clear h1 h2 hb HG hn hm
      go_wp2_with fail
      refine hC.out.mono ?_
      rintro e w1 ⟨hr, hb1⟩
      obtain ⟨p1, c1, rfl, hm1⟩ := hr
      obtain ⟨k, hk⟩ : ∃ k, nd a = k := ⟨_, rfl⟩
      rw [hk]
      have HK := Lib.hid hk
      have HM1 := Lib.hid hm1
      have HB1 := Lib.hid (HB.out.trans (hb1.mono HB.out.size))
      clear hm1 hb1 hk hC
      go_wp2
      go_ret
      exact ⟨⟨p1, c1, by rw [HK.out]; rfl, HM1.out⟩, HB1.out⟩
    · have hmd : 0 < m := by omega
      by_cases hsm : n ≤ 2 ∧ m ≤ 2
      · have hx := nd_le_two (u := a) (by omega)
        have hy := nd_le_two (u := gk) (by omega)
        have hC1 := c_wordN p c a wr h1 (by omega)
        have hC2 := fun w1 (hb1 : Below wr.heap.size wr w1) => c_wordN q d gk w1 (h2.keep hb1) (by omega)
        rw [hn] at hC1
        rw [hm] at hC2
        have hnd : n ≤ 2 := hsm.1
        have hmd2 : m ≤ 2 := hsm.2
        have HX := Lib.hid hx
        have HY := Lib.hid hy
        replace hC1 := Lib.hid hC1
        replace hC2 := Lib.hid hC2
        clear h1 h2 hb hG hn hm hx hy hsm hnl hml hm0
        go_wp2_with fail
        refine hC1.out.mono ?_
        rintro e w1 ⟨rfl, hq⟩
        have hb1 := quiet_below hq
        have HB1 := Lib.hid hb1
        clear hq hb1 hC1
        go_wp2_with fail
        refine (hC2.out _ HB1.out).mono ?_
        rintro e w2 ⟨rfl, hq⟩
        have HB2 := Lib.hid ((HB.out.trans (HB1.out.mono HB.out.size)).trans ((quiet_below hq).mono (Nat.le_trans HB.out.size HB1.out.size)))
        clear hq hC2 HB1 HB
        go_wp2
        go_loopw [5, 6] (fun v5 v6 wi => ∃ x y : Nat, v5 = .int .u64 x ∧ v6 = .int .u64 y ∧ Nat.gcd x y = G ∧ RowKit.Hid (x < 18446744073709551616 ∧ y < 18446744073709551616) ∧ Below w.heap.size w wi) (fun _ v6 _ => (intOf v6).toNat)
        case atStart => exact ⟨a, gk, rfl, rfl, HG.out, Lib.hid ⟨HX.out, HY.out⟩, HB2.out⟩
        case round =>
          clear HG HX HY HB2 hmd hnd hmd2
          obtain ⟨x, y, rfl, rfl, hg, HXY, hb⟩ := hrel
          have HB := Lib.hid hb
          by_cases hy0 : y = 0
          · subst hy0
            rw [Nat.gcd_zero_right] at hg
            subst hg
            have HW := Lib.hid (fun w => (c_wide x w HXY.out.1).mono (fun _ _ h => And.imp_left RetN.op h))
            clear hb
            go_wp2_with fail
            refine (HW.out _).mono ?_
            rintro e w4 ⟨⟨p4, n4, c4, rfl, hn4, hm4⟩, hb4⟩
            have HN4 := Lib.hid hn4
            have HM4 := Lib.hid hm4
            have HB4 := Lib.hid (HB.out.trans (hb4.mono HB.out.size))
            clear hn4 hm4 hb4 HW
            go_wp2
            go_ret
            exact ⟨⟨p4, c4, by rw [HN4.out]; rfl, HM4.out⟩, HB4.out⟩
          · obtain ⟨R, hR⟩ : ∃ R, x % y = R := ⟨_, rfl⟩
            have hRl : R < y := by rw [← hR]; exact Nat.mod_lt _ (by omega)
            have hrt : Int.tmod (x : Int) (y : Int) = (R : Nat) := by rw [Int.tmod_eq_emod_of_nonneg (by omega), ← hR]; exact (Int.natCast_emod _ _).symm
            have hrt2 : (x : Int) % (y : Int) = (R : Nat) := by rw [← hR]; exact (Int.natCast_emod _ _).symm
            have hnew : Nat.gcd y R = G := by rw [← hg, ← hR, Nat.gcd_comm x y, Nat.gcd_rec y x, Nat.gcd_comm]
            have HN := Lib.hid hnew
            have hyb : ((y : Int) != 0) = true := by rw [bne_iff_ne]; omega
            have hy1 : (y : Int) ≠ 0 := by omega
            have HRL := Lib.hid hRl
            clear hb hnew hR hg hRl
            go_wp2
            go_quiet (fail)
            go_wp2
            go_roundw
            case rel => exact ⟨y, R, rfl, rfl, HN.out, Lib.hid ⟨HXY.out.2, by have := HXY.out.2; have := HRL.out; omega⟩, below_drewN' HB.out _⟩
            case measure => simp [intOf]; exact HRL.out
      · have hb0 : gk ≠ 0 := nd_pos.1 (by omega)
        have hC := c_divide p c a q d gk wr h1 h2 (by omega) (by omega) hb0
        rw [hn, hm] at hC
        obtain ⟨R, hR⟩ : ∃ R, a % gk = R := ⟨_, rfl⟩
        have hRl : R < gk := by rw [← hR]; exact Nat.mod_lt _ (by omega)
        have hnew : Nat.gcd gk R = G := by rw [← hG, ← hR, Nat.gcd_comm a gk, Nat.gcd_rec gk a, Nat.gcd_comm]
        rw [hR] at hC
        have HN := Lib.hid hnew
        have HC := Lib.hid hC
        have HRL := Lib.hid hRl
        have H2 := Lib.hid h2
        have HM := Lib.hid hm
        clear h1 h2 hb hG hn hm hnew hC hRl hm0 hR hb0
        have htail : ∀ (w1 : World) (p2 : Option Addr) (c2 : Nat), Below wr.heap.size wr w1 → Nm w1 p2 c2 R → ∃ k, nd R = k ∧ RowKit.Hid (nd R = k ∧ k ≤ 35184372088830 ∧ Nm w1 q d gk ∧ Nm w1 p2 c2 R ∧ Below w.heap.size w w1) := by
          intro w1 p2 c2 hb1 hr
          have h1 : nd R ≤ m := by rw [← HM.out]; exact nd_mono (Nat.le_of_lt HRL.out)
          exact ⟨_, rfl, rfl, by omega, H2.out.keep hb1, hr, HB.out.trans (hb1.mono HB.out.size)⟩
        have HT := Lib.hid htail
        clear htail
        by_cases hn2 : n ≤ 2
        · have hmd2 : ¬ m ≤ 2 := by omega
          clear hsm
          go_wp2_with fail
          refine HC.out.mono ?_
          rintro e w1 ⟨⟨p1, c1, p2, c2, rfl, hq, hr⟩, hb1⟩
          obtain ⟨k, hk, HF⟩ := HT.out w1 p2 c2 hb1 hr
          rw [hk]
          obtain ⟨k1, hk1⟩ : ∃ k1, nd (a / gk) = k1 := ⟨_, rfl⟩
          rw [hk1]
          clear hk hk1 hq hr hb1 HT HC
          go_wp2
          go_roundg R
          case measure => exact HRL.out
          case rel => exact ⟨gk, m, k, q, p2, d, c2, rfl, rfl, HM.out, HF.out.1, by omega, HF.out.2.1, HF.out.2.2.1, HF.out.2.2.2.1, HN.out, HF.out.2.2.2.2⟩
        · clear hsm
          go_wp2_with fail
          refine HC.out.mono ?_
          rintro e w1 ⟨⟨p1, c1, p2, c2, rfl, hq, hr⟩, hb1⟩
          obtain ⟨k, hk, HF⟩ := HT.out w1 p2 c2 hb1 hr
          rw [hk]
          obtain ⟨k1, hk1⟩ : ∃ k1, nd (a / gk) = k1 := ⟨_, rfl⟩
          rw [hk1]
          clear hk hk1 hq hr hb1 HT HC
          go_wp2
          go_roundg R
          case measure => exact HRL.out
          case rel => exact ⟨gk, m, k, q, p2, d, c2, rfl, rfl, HM.out, HF.out.1, by omega, HF.out.2.1, HF.out.2.2.1, HF.out.2.2.2.1, HN.out, HF.out.2.2.2.2⟩
end Go.Proofs.YthikonjlgljikaaGreatDoor
