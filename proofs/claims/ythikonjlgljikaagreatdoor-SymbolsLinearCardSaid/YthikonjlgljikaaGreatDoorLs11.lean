/- Contract of bigint's digit (a digit of a long division). -/
import Derived.Test.YthikonjlgljikaaGreatDoorLs10
import Derived.IntWalk
import Derived.Deep.CutBlock
namespace Go.Proofs.YthikonjlgljikaaGreatDoor
open Go.RowKit

/-- Only block g has turned. -/
structure Only (g : Nat) (w w' : World) : Prop where
  os : w'.os = w.os
  tape : w'.tape = w.tape
  output : w'.output = w.output
  size : w.heap.size ≤ w'.heap.size
  block : ∀ k, k < w.heap.size → k ≠ g → w'.heap[k]? = w.heap[k]?
theorem Only.refl (g : Nat) (w : World) : Only g w w := ⟨rfl, rfl, rfl, Nat.le_refl _, fun _ _ _ => rfl⟩
theorem Only.trans {g : Nat} {a b c : World} (h : Only g a b) (k : Only g b c) : Only g a c :=
  ⟨k.os.trans h.os, k.tape.trans h.tape, k.output.trans h.output, Nat.le_trans h.size k.size, fun i hi hne => (k.block i (Nat.lt_of_lt_of_le hi h.size) hne).trans (h.block i hi hne)⟩
theorem Only.set {g : Nat} {a w : World} (h : Only g a w) (i : Nat) (v : Value) : Only g a (w.setCell ⟨g, i, none⟩ v) :=
  ⟨h.os, h.tape, h.output, by simpa using h.size, fun k hk hne => (Below.heap_setCell w ⟨g, i, none⟩ v k hne).trans (h.block k hk hne)⟩
theorem Only.drewN {g : Nat} {a w : World} (h : Only g a w) (n : Nat) : Only g a (w.drewN n) := ⟨h.os, h.tape, h.output, h.size, h.block⟩
theorem Only.cell {g : Nat} {w w' : World} (h : Only g w w') {p : Addr} (hp : p.block < w.heap.size) (hne : p.block ≠ g) : w'.cell? p = w.cell? p := World.cell?_of_block (w := w) (h.block p.block hp hne)
theorem Only.below {g B : Nat} {w w' : World} (h : Only g w w') (hg : B ≤ g) (hB : B ≤ w.heap.size) : Below B w w' := ⟨h.os, h.tape, h.output, h.size, fun k hk => h.block k (by omega) (by omega)⟩
theorem Only.dg {g : Nat} {w w' : World} (h : Only g w w') {g' o c n : Nat} {a : Nat → Nat} (hd : Dg w (some ⟨g', o, none⟩) c n a) (hne : g' ≠ g) : Dg w' (some ⟨g', o, none⟩) c n a :=
  ⟨hd.cap, hd.lt, by
    rcases hd.at' with h1 | ⟨g2, o2, e, hg, hc⟩
    · exact .inl h1
    · injection e with e; injection e with e1 e2; subst e1; subst e2
      exact .inr ⟨g', o, rfl, Nat.lt_of_lt_of_le hg h.size, fun j hj => (h.cell (p := ⟨g', o + j, none⟩) hg hne).trans (hc j hj)⟩⟩
theorem Only.row {g : Nat} {w w' : World} (h : Only g w w') {g' n : Nat} {a : Nat → Nat} (hr : Row w g' n a) (hne : g' ≠ g) : Row w' g' n a := ⟨hr.1.of_block (h.block g' hr.1.lt hne), hr.2⟩

theorem vf_three (a : Nat → Nat) (m : Nat) : vf a (m + 3) = vf a m + 4294967296 ^ m * (a m + 4294967296 * (a (m + 1) + 4294967296 * a (m + 2))) := by
  rw [show m + 3 = m + 2 + 1 from rfl, vf, show m + 2 = m + 1 + 1 from rfl, vf, vf, pow_succ', pow_succ']
  grind
theorem vf_two (a : Nat → Nat) (m : Nat) : vf a (m + 2) = vf a m + 4294967296 ^ m * (a m + 4294967296 * a (m + 1)) := by
  rw [show m + 2 = m + 1 + 1 from rfl, vf, vf, pow_succ']
  grind
theorem tops_of {a b : Nat → Nat} {N u0 u1 u2 v1 v2 : Nat} (hN : 2 ≤ N) (ha : ∀ i, i < N + 1 → a i < 4294967296) (hb : ∀ i, i < N → b i < 4294967296) (hu0 : a N = u0) (hu1 : a (N - 1) = u1) (hu2 : a (N - 2) = u2) (hv1 : b (N - 1) = v1) (hv2 : b (N - 2) = v2) (htop : 2147483648 ≤ v1) (hlt : vf a (N + 1) < vf b N * 4294967296) :
    Kn.Tops (4294967296 ^ (N - 2)) (vf a (N - 2)) (vf b (N - 2)) (u1 + 4294967296 * u0) u2 v1 v2 (vf a (N + 1)) (vf b N) := by
  obtain ⟨m, rfl⟩ : ∃ m, N = m + 2 := ⟨N - 2, by omega⟩
  have h1 := ha m (by omega)
  have h2 := hb m (by omega)
  simp only [show m + 2 - 1 = m + 1 from rfl, show m + 2 - 2 = m from rfl] at *
  exact ⟨vf_lt fun i hi => ha i (by omega), vf_lt fun i hi => hb i (by omega), by omega, by omega, htop, by rw [show m + 2 + 1 = m + 3 from rfl, vf_three, hu0, hu1, hu2], by rw [vf_two, hv1, hv2], hlt⟩
theorem shf_upd (r : Nat → Nat) (j i d : Nat) : shf (upd r (j + i) d) j = upd (shf r j) i d := by
  funext l
  unfold shf upd
  by_cases h : l = i
  · rw [if_pos h, if_pos (by omega)]
  · rw [if_neg h, if_neg (by omega)]
/-- The state of the subtraction of h times v: i digits are done; cy is what is carried and borrowed. -/
def SubAt (w : World) (g K j i h cy : Nat) (r b : Nat → Nat) : Prop := ∃ r2, Row w g K r2 ∧ (∀ l, l < j ∨ j + i ≤ l → r2 l = r l) ∧ vf (shf r2 j) i + h * vf b i = vf (shf r j) i + 4294967296 ^ i * cy
theorem sub_step {w : World} {g K j i h cy bw x y tl cz s bz : Nat} {r b r2 : Nat → Nat} (hrow : Row w g K r2) (hkeep : ∀ l, l < j ∨ j + i ≤ l → r2 l = r l) (hval : vf (shf r2 j) i + h * vf b i = vf (shf r j) i + 4294967296 ^ i * (cy + bw))
    (hx : r (j + i) = x) (hy : b i = y) (ht : tl + 4294967296 * cz = h * y + cy) (hs : s + tl + bw = x + 4294967296 * bz) (hsl : s < 4294967296) :
    SubAt (w.setCell ⟨g, j + i, none⟩ (.int .u32 s)) g K j (i + 1) h (cz + bz) r b := by
  refine ⟨_, hrow.set (j + i) s hsl, fun l hl => by unfold upd; rw [if_neg (by omega)]; exact hkeep l (by omega), ?_⟩
  rw [shf_upd, vf, vf_upd_ge (Nat.le_refl _), show upd (shf r2 j) i s i = s from by simp [upd], vf, vf, hy, show shf r j i = x from hx, pow_succ']
  have h1 : s + h * y + (cy + bw) = x + 4294967296 * (cz + bz) := by omega
  have h2 := congrArg (4294967296 ^ i * ·) h1
  simp only [Nat.mul_add] at h2 hval ⊢
  grind
theorem sub_last {w : World} {g K j N h cy bw x s bz : Nat} {r b r2 : Nat → Nat} (hrow : Row w g K r2) (hkeep : ∀ l, l < j ∨ j + N ≤ l → r2 l = r l) (hval : vf (shf r2 j) N + h * vf b N = vf (shf r j) N + 4294967296 ^ N * (cy + bw))
    (hx : r (j + N) = x) (hs : s + cy + bw = x + 4294967296 * bz) (hsl : s < 4294967296) :
    ∃ r3, Row (w.setCell ⟨g, j + N, none⟩ (.int .u32 s)) g K r3 ∧ (∀ l, l < j ∨ j + N < l → r3 l = r l) ∧ vf (shf r3 j) (N + 1) + h * vf b N = vf (shf r j) (N + 1) + 4294967296 ^ (N + 1) * bz := by
  refine ⟨_, hrow.set (j + N) s hsl, fun l hl => by unfold upd; rw [if_neg (by omega)]; exact hkeep l (by omega), ?_⟩
  rw [shf_upd, vf, vf_upd_ge (Nat.le_refl _), show upd (shf r2 j) N s N = s from by simp [upd], vf, show shf r j N = x from hx, pow_succ']
  have h2 := congrArg (4294967296 ^ N * ·) hs
  simp only [Nat.mul_add] at h2 hval ⊢
  grind
/-- The row behind a digit: the window holds the remainder, the rest is as it was. -/
def DigitAt (w : World) (g K j N : Nat) (r : Nat → Nat) (R : Nat) : Prop := ∃ r', Row w g K r' ∧ (∀ l, l < j ∨ j + N < l → r' l = r l) ∧ vf (shf r' j) (N + 1) = R
theorem digit_zero {w : World} {g K j N h U V Q P bz : Nat} {r r3 : Nat → Nat} (hb : bz = 0) (hrow : Row w g K r3) (hkeep : ∀ l, l < j ∨ j + N < l → r3 l = r l) (hval : vf (shf r3 j) (N + 1) + h * V = U + P * bz) (hQ : U / V = Q) (hlow : Q ≤ h) (hV : 0 < V) : h = Q ∧ DigitAt w g K j N r (U % V) := by
  subst hb
  rw [Nat.mul_zero, Nat.add_zero] at hval
  have h1 : h ≤ U / V := (Nat.le_div_iff_mul_le hV).2 (by omega)
  have h2 : h = Q := by omega
  refine ⟨h2, r3, hrow, hkeep, ?_⟩
  have h3 := Nat.div_add_mod U V
  rw [hQ, ← h2, Nat.mul_comm] at h3
  omega
/-- The state of the addition of v: i digits are done. -/
def BackAt (w : World) (g K j i bk : Nat) (r3 b : Nat → Nat) : Prop := ∃ r4, Row w g K r4 ∧ (∀ l, l < j ∨ j + i ≤ l → r4 l = r3 l) ∧ vf (shf r4 j) i + 4294967296 ^ i * bk = vf (shf r3 j) i + vf b i
theorem back_step {w : World} {g K j i bk x y s bz : Nat} {r3 b r4 : Nat → Nat} (hrow : Row w g K r4) (hkeep : ∀ l, l < j ∨ j + i ≤ l → r4 l = r3 l) (hval : vf (shf r4 j) i + 4294967296 ^ i * bk = vf (shf r3 j) i + vf b i)
    (hx : r3 (j + i) = x) (hy : b i = y) (hs : (x + y + bk) % 4294967296 = s) (hb : (x + y + bk) / 4294967296 = bz) :
    BackAt (w.setCell ⟨g, j + i, none⟩ (.int .u32 s)) g K j (i + 1) bz r3 b := by
  refine ⟨_, hrow.set (j + i) s (by omega), fun l hl => by unfold upd; rw [if_neg (by omega)]; exact hkeep l (by omega), ?_⟩
  rw [shf_upd, vf, vf_upd_ge (Nat.le_refl _), show upd (shf r4 j) i s i = s from by simp [upd], vf, vf, hy, show shf r3 j i = x from hx, pow_succ']
  have h1 : s + 4294967296 * bz = x + y + bk := by omega
  have h2 := congrArg (4294967296 ^ i * ·) h1
  simp only [Nat.mul_add] at h2 hval ⊢
  grind
theorem back_h {K j N h U V Q : Nat} {r3 : Nat → Nat} (hr3 : ∀ l, l < K → r3 l < 4294967296) {bz : Nat} (hb : bz = 1) (hval3 : vf (shf r3 j) (N + 1) + h * V = U + 4294967296 ^ (N + 1) * bz) (hj : j + N < K) (hQ : U / V = Q) (hlow : Q ≤ h) (hup : h ≤ Q + 1) : h = Q + 1 := by
  subst hb
  rw [Nat.mul_one] at hval3
  have h0 : vf (shf r3 j) (N + 1) < 4294967296 ^ (N + 1) := vf_lt fun i hi => hr3 (j + i) (by omega)
  rcases Nat.lt_or_ge Q h with h2 | h2
  · omega
  · exfalso
    have h3 : h = Q := by omega
    have h4 := Nat.div_mul_le_self U V
    rw [hQ, ← h3] at h4
    omega
theorem back_last {w : World} {g K j N h bk U V Q x s : Nat} {r r3 r4 : Nat → Nat} (hrow : Row w g K r4) (hkeep : ∀ l, l < j ∨ j + N ≤ l → r4 l = r3 l) (hval : vf (shf r4 j) N + 4294967296 ^ N * bk = vf (shf r3 j) N + V)
    (hkeep3 : ∀ l, l < j ∨ j + N < l → r3 l = r l) {bz : Nat} (hb : bz = 1) (hval3 : vf (shf r3 j) (N + 1) + h * V = U + 4294967296 ^ (N + 1) * bz) (hj : j + N < K) (hr3 : ∀ l, l < K → r3 l < 4294967296)
    (hx : r3 (j + N) = x) (hs : (x + bk) % 4294967296 = s) (hQ : U / V = Q) (hlow : Q ≤ h) (hup : h ≤ Q + 1) (hV : 0 < V) (hVl : V < 4294967296 ^ N) :
    h = Q + 1 ∧ DigitAt (w.setCell ⟨g, j + N, none⟩ (.int .u32 s)) g K j N r (U % V) := by
  subst hb
  rw [Nat.mul_one] at hval3
  have h0 : vf (shf r3 j) (N + 1) < 4294967296 ^ (N + 1) := vf_lt fun i hi => hr3 (j + i) (by omega)
  have h1 : h = Q + 1 := by
    rcases Nat.lt_or_ge Q h with h2 | h2
    · omega
    · exfalso
      have h3 : h = Q := by omega
      have h4 := Nat.div_mul_le_self U V
      rw [hQ, ← h3] at h4
      omega
  refine ⟨h1, _, hrow.set (j + N) s (by omega), fun l hl => by unfold upd; rw [if_neg (by omega), hkeep l (by omega)]; exact hkeep3 l hl, ?_⟩
  rw [shf_upd, vf, vf_upd_ge (Nat.le_refl _), show upd (shf r4 j) N s N = s from by simp [upd]]
  have h5 := Nat.div_add_mod U V
  have h6 := Nat.mod_lt U hV
  rw [hQ, Nat.mul_comm] at h5
  rw [h1, Nat.add_mul, Nat.one_mul, vf, show shf r3 j N = x from hx, pow_succ'] at hval3
  have h7 : vf (shf r4 j) N < 4294967296 ^ N := vf_lt fun i hi => hrow.2 (j + i) (by omega)
  have h8 : vf (shf r4 j) N + 4294967296 ^ N * (x + bk) = U % V + 4294967296 ^ N * 4294967296 := by
    rw [Nat.mul_add, Nat.mul_comm (4294967296 ^ N) 4294967296]; omega
  generalize U % V = R at *
  generalize 4294967296 ^ N = P at *
  have h9 : x + bk = 4294967296 := by
    rcases Nat.lt_trichotomy (x + bk) 4294967296 with h10 | h10 | h10
    · exfalso
      have := Nat.mul_le_mul_left P (show x + bk + 1 ≤ 4294967296 from h10)
      rw [Nat.mul_add, Nat.mul_one] at this
      omega
    · exact h10
    · exfalso
      have := Nat.mul_le_mul_left P (show 4294967296 + 1 ≤ x + bk from h10)
      rw [Nat.mul_add, Nat.mul_one] at this
      omega
  rw [h9] at hs h8
  rw [← hs]
  simp
  omega
set_option maxHeartbeats 4000000 in
set_option maxRecDepth 100000 in
theorem c_digit (g j K N cu gv ov cv : Nat) (r b : Nat → Nat) (w : World) (hrow : Row w g K r) (hjn : j + N < K) (hN : 2 ≤ N) (hv : Dg w (some ⟨gv, ov, none⟩) cv N b) (hgv : gv ≠ g) (htop : 2147483648 ≤ b (N - 1)) (hlt : vf (shf r j) (N + 1) < vf b N * 4294967296) (hNl : N ≤ 70368744177660) :
    Calls Tryz.prog 223 #[.slice (some ⟨g, j, none⟩) (N + 1) cu, .slice (some ⟨gv, ov, none⟩) N cv] w fun e w' => e = .returned (.int .u32 (vf (shf r j) (N + 1) / vf b N : Nat)) ∧ Only g w w' ∧ DigitAt w' g K j N r (vf (shf r j) (N + 1) % vf b N) := by
  obtain ⟨gv', ov', e, hgvl, hcv⟩ := hv.head (by omega)
  injection e with e; injection e with e1 e2; subst e1; subst e2
  obtain ⟨u0, hu0⟩ : ∃ x, r (j + N) = x := ⟨_, rfl⟩
  obtain ⟨u1, hu1⟩ : ∃ x, r (j + (N - 1)) = x := ⟨_, rfl⟩
  obtain ⟨u2, hu2⟩ : ∃ x, r (j + (N - 2)) = x := ⟨_, rfl⟩
  obtain ⟨v1, hv1⟩ : ∃ x, b (N - 1) = x := ⟨_, rfl⟩
  obtain ⟨v2, hv2⟩ : ∃ x, b (N - 2) = x := ⟨_, rfl⟩
  have cu0 : w.cell? ⟨g, j + N, none⟩ = some (.int .u32 u0) := by rw [← hu0]; exact hrow.1.cell (by omega)
  have cu1 : w.cell? ⟨g, j + (N - 1), none⟩ = some (.int .u32 u1) := by rw [← hu1]; exact hrow.1.cell (by omega)
  have cu2 : w.cell? ⟨g, j + (N - 2), none⟩ = some (.int .u32 u2) := by rw [← hu2]; exact hrow.1.cell (by omega)
  have cv1 : w.cell? ⟨gv, ov + (N - 1), none⟩ = some (.int .u32 v1) := by rw [← hv1]; exact hcv _ (by omega)
  have cv2 : w.cell? ⟨gv, ov + (N - 2), none⟩ = some (.int .u32 v2) := by rw [← hv2]; exact hcv _ (by omega)
  have lu0 : (u0 : Int) < 4294967296 := by have := hrow.2 (j + N) (by omega); omega
  have lu1 : (u1 : Int) < 4294967296 := by have := hrow.2 (j + (N - 1)) (by omega); omega
  have lu2 : (u2 : Int) < 4294967296 := by have := hrow.2 (j + (N - 2)) (by omega); omega
  have lv1 : (v1 : Int) < 4294967296 := by have := hv.lt (N - 1) (by omega); omega
  have lv2 : (v2 : Int) < 4294967296 := by have := hv.lt (N - 2) (by omega); omega
  have hv1g : (2147483648 : Int) ≤ (v1 : Int) := by omega
  have hNi : (2 : Int) ≤ (N : Int) := by omega
  have HROW := Lib.hid hrow
  have HV := Lib.hid hv
  have HLT := Lib.hid hlt
  have hor := or64 u0 u1 (by omega) (by omega)
  obtain ⟨T, hT⟩ : ∃ T, u1 + 4294967296 * u0 = T := ⟨_, rfl⟩
  have hTl : (T : Int) < 18446744073709551616 := by omega
  rw [hT] at hor
  have HCV := Lib.hid hcv
  clear hrow hv hlt hcv htop
  have hK := tops_of (a := shf r j) (b := b) hN (fun i hi => HROW.out.2 (j + i) (by omega)) HV.out.lt hu0 hu1 hu2 hv1 hv2 (by omega) HLT.out
  rw [hT] at hK
  obtain ⟨U, hU⟩ : ∃ U, vf (shf r j) (N + 1) = U := ⟨_, rfl⟩
  obtain ⟨V, hV⟩ : ∃ V, vf b N = V := ⟨_, rfl⟩
  obtain ⟨Q, hQ⟩ : ∃ Q, U / V = Q := ⟨_, rfl⟩
  rw [hU, hV] at hK
  rw [hU, hV, hQ]
  obtain ⟨q0, hq0⟩ : ∃ q0, T / v1 = q0 := ⟨_, rfl⟩
  obtain ⟨r0, hr0⟩ : ∃ r0, T % v1 = r0 := ⟨_, rfl⟩
  have hqt : Int.tdiv (T : Int) (v1 : Int) = (q0 : Nat) := by rw [Int.tdiv_eq_ediv_of_nonneg (by omega), ← hq0]; exact (Int.natCast_ediv _ _).symm
  have hrt : Int.tmod (T : Int) (v1 : Int) = (r0 : Nat) := by rw [Int.tmod_eq_emod_of_nonneg (by omega), ← hr0]; exact (Int.natCast_emod _ _).symm
  have hqt2 : (T : Int) / (v1 : Int) = (q0 : Nat) := by rw [← hq0]; exact (Int.natCast_ediv _ _).symm
  have hrt2 : (T : Int) % (v1 : Int) = (r0 : Nat) := by rw [← hr0]; exact (Int.natCast_emod _ _).symm
  have hq1 : (q0 : Int) ≤ 4294967297 := by have := hK.start; omega
  have hqw : IntKind.u64.wrap (q0 : Int) = q0 := by rw [IntKind.wrap_u64]; omega
  have hq2 : Q ≤ q0 := by rw [← hQ, ← hq0]; exact hK.first
  have hr1 : (r0 : Int) < (v1 : Int) := by have := Nat.mod_lt T (show 0 < v1 by omega); omega
  have hqr : q0 * v1 + r0 = T := by rw [← hq0, ← hr0, Nat.mul_comm]; exact Nat.div_add_mod _ _
  have HK := Lib.hid hK
  have HU := Lib.hid hU
  have HVV := Lib.hid hV
  have HQ := Lib.hid hQ
  have HQ2 := Lib.hid hq2
  have HQR := Lib.hid hqr
  have HT := Lib.hid hT
  clear hK hU hV hQ hq2 hqr hT hq0 hr0 hu0 hu1 hu2 hv1 hv2
  go_enter Tryz.func223, Tryz.ntmps223
  go_wp2
  go_quiet (fail)
  go_wp2
  go_quiet (fail)
  go_upto_block 0 with (fail)
  clear hqt hrt hqt2 hrt2 hqw
  go_cut [7] from 48 to 81 (fun v7 wc => ∃ h : Nat, v7 = .int .u64 h ∧ Q ≤ h ∧ h ≤ Q + 1 ∧ (h : Int) < 4294967296 ∧ ∃ k, wc = w.drewN k)
  case first =>
   go_wp2_with fail
   go_loopw [7, 8] (fun v7 v8 wr => ∃ q r' : Nat, v7 = .int .u64 q ∧ v8 = .int .u64 r' ∧ q * v1 + r' = T ∧ (r' : Int) < 4294967296 ∧ Q ≤ q ∧ (q : Int) ≤ 4294967297 ∧ ∃ k, wr = w.drewN k) (fun v7 _ _ => (intOf v7).toNat)
   case atStart => exact ⟨q0, r0, rfl, rfl, HQR.out, by omega, HQ2.out, hq1, _, by rw [dr2]⟩
   case round =>
     clear HQ2 HQR hq1 hr1
     obtain ⟨q, r', rfl, rfl, hqr, hrl, hQq, hql, k, rfl⟩ := hrel
     have HQR := Lib.hid hqr
     have HQQ := Lib.hid hQq
     clear hqr hQq
     go_upto_region 4 with (fail)
     go_cut [69] from 48 to 69 (fun v wc => ∃ t : Bool, v = .bool t ∧ (t = true → Q < q) ∧ (t = false → q < 4294967296 ∧ q ≤ Q + 1) ∧ ∃ k, wc = w.drewN k)
     case first =>
       have n2w : IntKind.i64.wrap ((N : Int) - 2) = (N : Int) - 2 := IntWalk.i64_in _ (by omega)
       have n2n : ((N : Int) - 2).toNat = N - 2 := by omega
       have n20 : 0 ≤ (N : Int) - 2 := by omega
       have n2l : N - 2 < N := by omega
       have n2m : N - 2 < N + 1 := by omega
       by_cases hge : (4294967296 : Int) ≤ (q : Int)
       · have hgeb : decide ((4294967296 : Int) ≤ (q : Int)) = true := decide_eq_true hge
         have hlow : Q < q := by have := HK.out.small; have := HQ.out; omega
         have HLOW := Lib.hid hlow
         clear hlow
         go_wp2
         go_region
         go_wp2
         go_meet
         case rel => exact ⟨true, rfl, fun _ => HLOW.out, fun h => by simp at h, _, by first | rfl | rw [dr2] | exact (dr2 _ _ 1)⟩
       · have hgeb : decide ((4294967296 : Int) ≤ (q : Int)) = false := decide_eq_false hge
         have HGB := Lib.hid hgeb
         obtain ⟨pv, hpv⟩ : ∃ pv, q * v2 = pv := ⟨_, rfl⟩
         have hpvi : (q : Int) * (v2 : Int) = (pv : Nat) := by rw [← hpv]; exact (Int.natCast_mul _ _).symm
         have hpl : pv ≤ 4294967295 * 4294967295 := by rw [← hpv]; exact Nat.mul_le_mul (by omega) (by omega)
         have hpli : (pv : Int) ≤ 18446744065119617025 := by omega
         have hor2 := or64 r' u2 (by omega) (by omega)
         obtain ⟨z, hz⟩ : ∃ z, u2 + 4294967296 * r' = z := ⟨_, rfl⟩
         rw [hz] at hor2
         by_cases hgt : (z : Int) < (pv : Int)
         · have hlow : Q < q := by rw [← HQ.out]; exact HK.out.down HQR.out (by omega)
           have HLOW := Lib.hid hlow
           clear hlow hz hpv hpl
           go_wp2
           go_region
           go_wp2
           go_meet
           case rel => exact ⟨true, rfl, fun _ => HLOW.out, fun h => by simp at h, _, by first | rfl | rw [dr2] | exact (dr2 _ _ 1)⟩
         · have hlow : q ≤ Q + 1 := by rw [← HQ.out]; exact HK.out.upA HQR.out (by omega) (by omega)
           have hqb : q < 4294967296 := by omega
           have HLOW := Lib.hid hlow
           have HQB := Lib.hid hqb
           clear hlow hqb hz hpv hpl
           go_wp2
           go_region
           go_wp2
           go_meet
           case rel => exact ⟨false, val_b (decide_eq_false (by omega)), fun h => by simp at h, fun _ => ⟨HQB.out, HLOW.out⟩, _, by first | rfl | rw [dr2] | exact (dr2 _ _ 1)⟩
     case rest =>
       obtain ⟨t, rfl, ht, hf, k2, rfl⟩ := hcut
       cases t with
       | true =>
         have hlow := ht rfl
         obtain ⟨h, rfl⟩ : ∃ h, q = h + 1 := ⟨q - 1, by omega⟩
         have hqr2 : h * v1 + (r' + v1) = T := by have := HQR.out; rw [Nat.add_mul] at this; omega
         have hlow2 : Q ≤ h := by omega
         have HQR2 := Lib.hid hqr2
         have HL2 := Lib.hid hlow2
         clear ht hf hqr2 hlow hlow2
         by_cases hbr : (4294967296 : Int) ≤ (r' : Int) + (v1 : Int)
         · have hup : h ≤ Q := by rw [← HQ.out]; exact HK.out.upB HQR2.out (by omega) (by omega)
           have hh3 : (h : Int) < 4294967296 := by have := HK.out.small; have := HQ.out; omega
           go_wp2
           go_meet
           case rel => exact ⟨h, by go_num, HL2.out, by omega, hh3, _, by first | rfl | rw [dr2]⟩
         · go_wp2
           go_roundw
           case rel => exact ⟨h, r' + v1, rfl, by go_num, HQR2.out, by omega, HL2.out, by omega, _, rfl⟩
           case measure => simp [intOf]
       | false =>
         obtain ⟨hqb, hup⟩ := hf rfl
         clear ht hf
         go_wp2
         go_meet
         case rel => exact ⟨q, rfl, HQQ.out, hup, by omega, _, by first | rfl | rw [dr2]⟩
  case rest =>
    clear HQ2 HQR hq1 hr1
    obtain ⟨h, rfl, hA, hBU, hh3, k0, rfl⟩ := hcut
    have HBU := Lib.hid hBU
    have HA := Lib.hid hA
    clear hA hBU
    go_wp2
    go_loopw [9, 10, 84] (fun v9 v10 v84 wr => ∃ i cy bw : Nat, i ≤ N ∧ v9 = .int .u64 cy ∧ v10 = .int .u32 bw ∧ v84 = .int .i64 i ∧ (cy : Int) < 4294967296 ∧ (bw : Int) ≤ 1 ∧ SubAt wr g K j i h (cy + bw) r b ∧ Only g w wr) (fun _ _ v84 _ => N - (intOf v84).toNat)
    case atStart => exact ⟨0, 0, 0, Nat.zero_le _, rfl, rfl, rfl, by decide, by decide, ⟨r, HROW.out, fun _ _ => rfl, by simp [vf]⟩, (Only.refl _ _).drewN _⟩
    case round =>
      obtain ⟨i, cy, bw, hi, rfl, rfl, rfl, hcy, hbw, ⟨r2, hrow, hkeep, hval⟩, hO⟩ := hrel
      have HO := Lib.hid hO
      clear hO
      have hxe : r2 (j + i) = r (j + i) := hkeep (j + i) (.inr (Nat.le_refl _))
      by_cases hlt : (i : Int) < (N : Int)
      · have cx : wr.cell? ⟨g, j + i, none⟩ = some (.int .u32 (r (j + i) : Nat)) := by rw [← hxe]; exact hrow.1.cell (by omega)
        have fx : wr.frozen? ⟨g, j + i, none⟩ = false := hrow.1.frozen _
        have cb : wr.cell? ⟨gv, ov + i, none⟩ = some (.int .u32 (b i : Nat)) := (HO.out.cell (p := ⟨gv, ov + i, none⟩) hgvl hgv).trans (HCV.out i (by omega))
        have hxl : ((r (j + i) : Nat) : Int) < 4294967296 := by have := HROW.out.2 (j + i) (by omega); omega
        have hyl : ((b i : Nat) : Int) < 4294967296 := by have := HV.out.lt i (by omega); omega
        obtain ⟨x, hx⟩ : ∃ x, r (j + i) = x := ⟨_, rfl⟩
        obtain ⟨y, hy⟩ : ∃ y, b i = y := ⟨_, rfl⟩
        rw [hx] at cx hxl
        rw [hy] at cb hyl
        obtain ⟨pp, hpp⟩ : ∃ pp, h * y = pp := ⟨_, rfl⟩
        have hppi : (h : Int) * (y : Int) = (pp : Nat) := by rw [← hpp]; exact (Int.natCast_mul _ _).symm
        have hple : pp ≤ 4294967295 * 4294967295 := by rw [← hpp]; exact Nat.mul_le_mul (by omega) (by omega)
        have hppl : (pp : Int) ≤ 18446744065119617025 := by omega
        obtain ⟨tl, htl⟩ : ∃ tl, (pp + cy) % 4294967296 = tl := ⟨_, rfl⟩
        obtain ⟨cz, hcz⟩ : ∃ cz, (pp + cy) / 4294967296 = cz := ⟨_, rfl⟩
        have htli : ((pp : Int) + (cy : Int)) % 4294967296 = (tl : Nat) := by omega
        have hczi : ((pp : Int) + (cy : Int)) / 4294967296 = (cz : Nat) := by omega
        have htll : (tl : Int) < 4294967296 := by omega
        have hczl : (cz : Int) < 4294967296 := by omega
        have HC := c_Sub32 x tl bw wr hxl htll hbw
        obtain ⟨s, hs⟩ : ∃ s : Nat, (s : Int) = ((x : Int) - tl - bw) % 4294967296 := ⟨(((x : Int) - tl - bw) % 4294967296).toNat, by omega⟩
        obtain ⟨bz, hbz⟩ : ∃ bz : Nat, (if x < tl + bw then 1 else 0) = bz := ⟨_, rfl⟩
        have hbzi : (if x < tl + bw then (1 : Int) else 0) = (bz : Nat) := by rw [← hbz]; split <;> rfl
        have hbzl : (bz : Int) ≤ 1 := by rw [← hbzi]; split <;> decide
        have hsum : s + tl + bw = x + 4294967296 * bz := by split at hbz <;> omega
        rw [← hs, hbzi] at HC
        have hnew := sub_step hrow hkeep hval hx hy (show tl + 4294967296 * cz = h * y + cy by omega) hsum (by omega)
        have HN := Lib.hid hnew
        have HC := Lib.hid HC
        clear hnew hrow hkeep hval hx hy hpp hple htl hcz hs hbz hbzi hsum hxe
        go_wp2_with (go_at_call 212; refine HC.out.mono ?_; rintro e w' ⟨rfl, rfl⟩)
        go_roundw
        case rel => exact ⟨i + 1, cz, bz, by omega, rfl, rfl, by go_num, hczl, hbzl, HN.out, HO.out.set _ _⟩
        case measure => simp [intOf]; omega
      · obtain rfl : i = N := by omega
        have cx : wr.cell? ⟨g, j + i, none⟩ = some (.int .u32 (r (j + i) : Nat)) := by rw [← hxe]; exact hrow.1.cell (by omega)
        have fx : wr.frozen? ⟨g, j + i, none⟩ = false := hrow.1.frozen _
        have hxl : ((r (j + i) : Nat) : Int) < 4294967296 := by have := HROW.out.2 (j + i) (by omega); omega
        obtain ⟨x, hx⟩ : ∃ x, r (j + i) = x := ⟨_, rfl⟩
        rw [hx] at cx hxl
        have hcym : (cy : Int) % 4294967296 = (cy : Int) := by omega
        have HC := c_Sub32 x cy bw wr hxl hcy hbw
        obtain ⟨s, hs⟩ : ∃ s : Nat, (s : Int) = ((x : Int) - cy - bw) % 4294967296 := ⟨(((x : Int) - cy - bw) % 4294967296).toNat, by omega⟩
        obtain ⟨bz, hbz⟩ : ∃ bz : Nat, (if x < cy + bw then 1 else 0) = bz := ⟨_, rfl⟩
        have hbzi : (if x < cy + bw then (1 : Int) else 0) = (bz : Nat) := by rw [← hbz]; split <;> rfl
        have hbzl : (bz : Int) ≤ 1 := by rw [← hbzi]; split <;> decide
        have hsum : s + cy + bw = x + 4294967296 * bz := by split at hbz <;> omega
        rw [← hs, hbzi] at HC
        have hnew := sub_last hrow hkeep hval hx hsum (by omega)
        rw [HU.out, HVV.out] at hnew
        have HN := Lib.hid hnew
        have HC := Lib.hid HC
        have hO3 := HO.out.set (j + i) (.int .u32 (s : Nat))
        have HO3 := Lib.hid hO3
        have hhm : (h : Int) % 4294967296 = (h : Int) := by omega
        clear hnew hrow hkeep hval hx hs hbz hbzi hsum hxe hO3
        by_cases hb0 : bz = 0
        · subst hb0
          obtain ⟨r3, hrow3, hkeep3, hval3⟩ := HN.out
          have hd := digit_zero rfl hrow3 hkeep3 hval3 HQ.out HA.out HK.out.Vpos
          obtain ⟨hhq, hd⟩ := hd
          have HD := Lib.hid hd
          have HHQ := Lib.hid hhq
          clear hrow3 hkeep3 hval3 hd hhq
          go_wp2_with (go_at_call 212; refine HC.out.mono ?_; rintro e w' ⟨rfl, rfl⟩)
          go_ret
          exact ⟨ret_i (by rw [HHQ.out]), HO3.out, HD.out⟩
        · obtain rfl : bz = 1 := by omega
          clear hb0
          obtain ⟨r3, hrow3, hkeep3, hval3⟩ := HN.out
          have hhq := back_h hrow3.2 rfl hval3 hjn HQ.out HA.out HBU.out
          have HHQ := Lib.hid hhq
          have hh1 : (1 : Int) ≤ (h : Int) := by omega
          have hhm1 : ((h : Int) - 1) % 4294967296 = (h : Int) - 1 := by omega
          have HR3L := Lib.hid hrow3.2
          have HR3 := Lib.hid hrow3
          have HK3 := Lib.hid hkeep3
          have HV3 := Lib.hid hval3
          clear hrow3 hkeep3 hval3 hhq HN
          go_wp2_with (go_at_call 212; refine HC.out.mono ?_; rintro e w' ⟨rfl, rfl⟩)
          obtain ⟨w3, hw3⟩ : ∃ w3, World.setCell w' ⟨g, j + i, none⟩ (.int .u32 (s : Nat)) = w3 := ⟨_, rfl⟩
          rw [hw3] at HR3 HO3 ⊢
          clear hw3 cx fx HC HO
          go_loopw [14, 132] (fun v14 v132 wr => ∃ i2 bk : Nat, i2 ≤ i ∧ v14 = .int .u32 bk ∧ v132 = .int .i64 i2 ∧ (bk : Int) ≤ 1 ∧ BackAt wr g K j i2 bk r3 b ∧ Only g w wr) (fun _ v132 _ => i - (intOf v132).toNat)
          case atStart => exact ⟨0, 0, Nat.zero_le _, rfl, rfl, by decide, ⟨r3, HR3.out, fun _ _ => rfl, by simp [vf]⟩, HO3.out⟩
          case round =>
            obtain ⟨i2, bk, hi2, rfl, rfl, hbk, ⟨r4, hrow4, hkeep4, hval4⟩, hO4⟩ := hrel
            have HO4 := Lib.hid hO4
            clear hO4 HO3 HR3
            have hxe : r4 (j + i2) = r3 (j + i2) := hkeep4 (j + i2) (.inr (Nat.le_refl _))
            have fx : wr.frozen? ⟨g, j + i2, none⟩ = false := hrow4.1.frozen _
            have cx : wr.cell? ⟨g, j + i2, none⟩ = some (.int .u32 (r4 (j + i2) : Nat)) := hrow4.1.cell (by omega)
            have hxl : ((r4 (j + i2) : Nat) : Int) < 4294967296 := by have := hrow4.2 (j + i2) (by omega); omega
            obtain ⟨x4, hx⟩ : ∃ x4, r3 (j + i2) = x4 := ⟨_, rfl⟩
            rw [hxe, hx] at cx hxl
            by_cases hlt4 : (i2 : Int) < (i : Int)
            · have cb : wr.cell? ⟨gv, ov + i2, none⟩ = some (.int .u32 (b i2 : Nat)) := (HO4.out.cell (p := ⟨gv, ov + i2, none⟩) hgvl hgv).trans (HCV.out i2 (by omega))
              have hyl : ((b i2 : Nat) : Int) < 4294967296 := by have := HV.out.lt i2 (by omega); omega
              obtain ⟨y, hy⟩ : ∃ y, b i2 = y := ⟨_, rfl⟩
              rw [hy] at cb hyl
              have HC := c_Add32 x4 y bk wr hxl hyl (by omega)
              obtain ⟨s4, hs⟩ : ∃ s4, (x4 + y + bk) % 4294967296 = s4 := ⟨_, rfl⟩
              obtain ⟨bz, hbz⟩ : ∃ bz, (x4 + y + bk) / 4294967296 = bz := ⟨_, rfl⟩
              have hsl : (s4 : Int) < 4294967296 := by omega
              have hbzl : (bz : Int) ≤ 1 := by omega
              have hnew := back_step hrow4 hkeep4 hval4 hx hy hs hbz
              rw [hs, hbz] at HC
              have HN := Lib.hid hnew
              have HC := Lib.hid HC
              clear hnew hrow4 hkeep4 hval4 hx hy hs hbz hxe
              go_wp2_with (go_at_call 210; refine HC.out.mono ?_; rintro e w' ⟨rfl, rfl⟩)
              go_roundw
              case rel => exact ⟨i2 + 1, bz, by omega, rfl, by go_num, hbzl, HN.out, HO4.out.set _ _⟩
              case measure => simp [intOf]; omega
            · obtain rfl : i2 = i := by omega
              obtain ⟨s4, hs⟩ : ∃ s4, (x4 + bk) % 4294967296 = s4 := ⟨_, rfl⟩
              have hsi : ((x4 : Int) + (bk : Int)) % 4294967296 = (s4 : Nat) := by omega
              have hsl : (s4 : Int) < 4294967296 := by omega
              have hvl : V < 4294967296 ^ i2 := by rw [← HVV.out]; exact vf_lt HV.out.lt
              rw [HVV.out] at hval4
              obtain ⟨_, hd⟩ := back_last hrow4 hkeep4 hval4 HK3.out rfl HV3.out hjn HR3L.out hx hs HQ.out HA.out HBU.out HK.out.Vpos hvl
              have HD := Lib.hid hd
              have HO5 := Lib.hid (HO4.out.set (j + i2) (.int .u32 (s4 : Nat)))
              clear hrow4 hkeep4 hval4 hx hs hxe hd hvl HO4
              go_wp2
              go_ret
              exact ⟨ret_i (by have := HHQ.out; omega), HO5.out, HD.out⟩
end Go.Proofs.YthikonjlgljikaaGreatDoor
