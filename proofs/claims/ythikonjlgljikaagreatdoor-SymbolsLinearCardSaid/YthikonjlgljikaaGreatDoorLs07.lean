/- Digits to base 2^32: values, normal forms, lengths. No program in sight. Digits to base 2^32 as functions of the index: values, updates, splits; slices of digits in memory. Contracts of bigint: trimmed, signed, wide, word, sign, compare. -/
import Derived.Test.YthikonjlgljikaaGreatDoorLs01
import Derived.Deep.OwnRows
import Derived.Laws.Bits64b
namespace Go.Proofs.YthikonjlgljikaaGreatDoor.Dig

/-- The value of a list of digits, least significant first. -/
def val : List Nat → Nat
  | [] => 0
  | d :: l => d + 4294967296 * val l
def digF : Nat → Nat → List Nat
  | 0, _ => []
  | f+1, n => if n = 0 then [] else n % 4294967296 :: digF f (n / 4294967296)
/-- The digits of a number, without leading zeros. -/
def dig (n : Nat) : List Nat := digF n n

theorem digF_eq : ∀ (f g n : Nat), n ≤ f → n ≤ g → digF f n = digF g n
  | 0, 0, _, _, _ => rfl
  | 0, g+1, n, h, _ => by
    have : n = 0 := by omega
    subst this; simp [digF]
  | f+1, 0, n, _, h => by
    have : n = 0 := by omega
    subst this; simp [digF]
  | f+1, g+1, n, h, h' => by
    rw [digF, digF]
    split
    · rfl
    · rename_i h0
      have : n / 4294967296 < n := Nat.div_lt_self (by omega) (by omega)
      rw [digF_eq f g _ (by omega) (by omega)]
theorem dig_zero : dig 0 = [] := rfl
theorem dig_pos {n : Nat} (h : n ≠ 0) : dig n = n % 4294967296 :: dig (n / 4294967296) := by
  obtain ⟨m, rfl⟩ : ∃ m, n = m + 1 := ⟨n - 1, by omega⟩
  unfold dig
  rw [digF, if_neg h]
  have : (m + 1) / 4294967296 < m + 1 := Nat.div_lt_self (by omega) (by omega)
  rw [digF_eq m ((m + 1) / 4294967296) _ (by omega) (Nat.le_refl _)]
theorem val_append (a b : List Nat) : val (a ++ b) = val a + 4294967296 ^ a.length * val b := by
  induction a with
  | nil => simp [val]
  | cons d a ih => rw [List.cons_append, val, val, ih, List.length_cons, Nat.pow_succ, Nat.mul_add]; rw [Nat.mul_comm (4294967296 ^ a.length) 4294967296, Nat.mul_assoc]; omega
theorem pow_pos (k : Nat) : 0 < 4294967296 ^ k := Nat.pow_pos (by omega)
theorem dig_lt {n k : Nat} : (dig n).length ≤ k ↔ n < 4294967296 ^ k := by
  induction k generalizing n with
  | zero =>
    by_cases h : n = 0
    · subst h; simp [dig_zero]
    · rw [dig_pos h]; simp; omega
  | succ k ih =>
    by_cases h : n = 0
    · subst h; have := pow_pos (k + 1); simp [dig_zero]; omega
    · rw [dig_pos h, List.length_cons, Nat.pow_succ, Nat.add_le_add_iff_right, ih, Nat.div_lt_iff_lt_mul (by omega)]
theorem dig_length_pos {n : Nat} : 0 < (dig n).length ↔ n ≠ 0 := by
  by_cases h : n = 0
  · subst h; simp [dig_zero]
  · rw [dig_pos h]; simp; exact h
theorem dig_top {n : Nat} (h : n ≠ 0) : 4294967296 ^ ((dig n).length - 1) ≤ n := by
  rcases Nat.lt_or_ge n (4294967296 ^ ((dig n).length - 1)) with hlt | hge
  · have := dig_lt.2 hlt
    have := dig_length_pos.2 h
    omega
  · exact hge
theorem dig_mono {a b : Nat} (h : a ≤ b) : (dig a).length ≤ (dig b).length :=
  dig_lt.2 (Nat.lt_of_le_of_lt h (dig_lt.1 (Nat.le_refl _)))
theorem dig_add_len (a b : Nat) : (dig (a + b)).length ≤ max (dig a).length (dig b).length + 1 := by
  rw [dig_lt, Nat.pow_succ]
  have h1 := dig_lt.1 (show (dig a).length ≤ max (dig a).length (dig b).length from by omega)
  have h2 := dig_lt.1 (show (dig b).length ≤ max (dig a).length (dig b).length from by omega)
  omega
theorem dig_mul_len (a b : Nat) : (dig (a * b)).length ≤ (dig a).length + (dig b).length := by
  rw [dig_lt, Nat.pow_add]
  exact Nat.mul_lt_mul'' (dig_lt.1 (Nat.le_refl _)) (dig_lt.1 (Nat.le_refl _))
end Go.Proofs.YthikonjlgljikaaGreatDoor.Dig
namespace Go.Proofs.YthikonjlgljikaaGreatDoor
open Go.RowKit

/-- The value of the first n digits. -/
def vf (a : Nat → Nat) : Nat → Nat
  | 0 => 0
  | n + 1 => vf a n + 4294967296 ^ n * a n
def shf (a : Nat → Nat) (m : Nat) : Nat → Nat := fun i => a (m + i)
def upd (a : Nat → Nat) (k d : Nat) : Nat → Nat := fun j => if j = k then d else a j
theorem vf_congr {a b : Nat → Nat} {n : Nat} (h : ∀ i, i < n → a i = b i) : vf a n = vf b n := by
  induction n with
  | zero => rfl
  | succ n ih => rw [vf, vf, ih (fun i hi => h i (by omega)), h n (by omega)]
theorem pow_succ' (n : Nat) : 4294967296 ^ (n + 1) = 4294967296 * 4294967296 ^ n := by rw [Nat.pow_succ, Nat.mul_comm]
theorem vf_lt {a : Nat → Nat} {n : Nat} (h : ∀ i, i < n → a i < 4294967296) : vf a n < 4294967296 ^ n := by
  induction n with
  | zero => simp [vf]
  | succ n ih =>
    rw [vf, pow_succ']
    have h1 := ih (fun i hi => h i (by omega))
    have h2 := Nat.mul_le_mul_left (4294967296 ^ n) (show a n ≤ 4294967295 from by have := h n (by omega); omega)
    rw [Nat.mul_comm _ 4294967295] at h2
    generalize 4294967296 ^ n * a n = y at *
    generalize 4294967296 ^ n = x at *
    omega
theorem vf_head (a : Nat → Nat) (n : Nat) : vf a (n + 1) = a 0 + 4294967296 * vf (shf a 1) n := by
  induction n with
  | zero => simp [vf]
  | succ n ih =>
    rw [vf, ih, vf, pow_succ', Nat.mul_assoc, Nat.mul_add, show shf a 1 n = a (n + 1) from by simp [shf, Nat.add_comm]]
    omega
theorem vf_split (a : Nat → Nat) (m n : Nat) : vf a (m + n) = vf a m + 4294967296 ^ m * vf (shf a m) n := by
  induction n with
  | zero => simp [vf]
  | succ n ih =>
    rw [← Nat.add_assoc, vf, ih, vf, Nat.pow_add, Nat.mul_add, Nat.mul_assoc, show shf a m n = a (m + n) from rfl]
    omega
theorem vf_zero {a : Nat → Nat} {n : Nat} (h : ∀ i, i < n → a i = 0) : vf a n = 0 := by
  induction n with
  | zero => rfl
  | succ n ih => rw [vf, ih (fun i hi => h i (by omega)), h n (by omega)]; simp
theorem vf_tail {a : Nat → Nat} {m n : Nat} (hm : m ≤ n) (h : ∀ i, m ≤ i → i < n → a i = 0) : vf a n = vf a m := by
  obtain ⟨k, rfl⟩ : ∃ k, n = m + k := ⟨n - m, by omega⟩
  rw [vf_split, vf_zero (a := shf a m) (n := k) (fun i hi => h (m + i) (by omega) (by omega))]
  simp
theorem vf_upd_ge {a : Nat → Nat} {k d n : Nat} (h : n ≤ k) : vf (upd a k d) n = vf a n :=
  vf_congr fun i hi => by unfold upd; rw [if_neg (by omega)]
theorem vf_upd {a : Nat → Nat} {k d n : Nat} (h : k < n) : vf (upd a k d) n + 4294967296 ^ k * a k = vf a n + 4294967296 ^ k * d := by
  induction n with
  | zero => omega
  | succ n ih =>
    rw [vf, vf]
    by_cases hk : k = n
    · subst hk
      rw [vf_upd_ge (Nat.le_refl _), show upd a k d k = d from by simp [upd]]
      omega
    · have h1 := ih (by omega)
      rw [show upd a k d n = a n from by unfold upd; rw [if_neg (by omega)]]
      omega
theorem vf_inj {a b : Nat → Nat} {n : Nat} (ha : ∀ i, i < n → a i < 4294967296) (hb : ∀ i, i < n → b i < 4294967296) (h : vf a n = vf b n) : ∀ i, i < n → a i = b i := by
  induction n generalizing a b with
  | zero => intro i hi; omega
  | succ n ih =>
    rw [vf_head, vf_head] at h
    have h0 := ha 0 (by omega)
    have h1 := hb 0 (by omega)
    have h2 := ih (a := shf a 1) (b := shf b 1) (fun i hi => ha (1 + i) (by omega)) (fun i hi => hb (1 + i) (by omega)) (by omega)
    intro i hi
    cases i with
    | zero => omega
    | succ i => have := h2 i (by omega); unfold shf at this; rwa [Nat.add_comm] at this
/-- The number of digits. -/
def nd (v : Nat) : Nat := (Dig.dig v).length
def dg (v : Nat) (i : Nat) : Nat := v / 4294967296 ^ i % 4294967296
theorem dg_lt (v i : Nat) : dg v i < 4294967296 := Nat.mod_lt _ (by omega)
theorem nd_le {v k : Nat} : nd v ≤ k ↔ v < 4294967296 ^ k := Dig.dig_lt
theorem nd_mono {a b : Nat} (h : a ≤ b) : nd a ≤ nd b := Dig.dig_mono h
theorem nd_add (a b : Nat) : nd (a + b) ≤ max (nd a) (nd b) + 1 := Dig.dig_add_len a b
theorem nd_mul (a b : Nat) : nd (a * b) ≤ nd a + nd b := Dig.dig_mul_len a b
theorem nd_zero : nd 0 = 0 := rfl
theorem nd_pos {v : Nat} : 0 < nd v ↔ v ≠ 0 := Dig.dig_length_pos
theorem nd_top {v : Nat} (h : v ≠ 0) : 4294967296 ^ (nd v - 1) ≤ v := Dig.dig_top h
theorem vf_dg_mod (v n : Nat) : vf (dg v) n = v % 4294967296 ^ n := by
  induction n with
  | zero => simp [vf, Nat.mod_one]
  | succ n ih => rw [vf, ih, Nat.pow_succ, Nat.mod_mul]; rfl
theorem vf_dg {v n : Nat} (h : v < 4294967296 ^ n) : vf (dg v) n = v := by rw [vf_dg_mod, Nat.mod_eq_of_lt h]
theorem vf_nd (v : Nat) : vf (dg v) (nd v) = v := vf_dg (nd_le.1 (Nat.le_refl _))
theorem dg_vf {a : Nat → Nat} {n : Nat} (ha : ∀ i, i < n → a i < 4294967296) : ∀ i, i < n → a i = dg (vf a n) i :=
  vf_inj ha (fun i _ => dg_lt _ i) (vf_dg (vf_lt ha)).symm
theorem nd_vf {a : Nat → Nat} {n : Nat} (ha : ∀ i, i < n → a i < 4294967296) (h : n = 0 ∨ a (n - 1) ≠ 0) : nd (vf a n) = n := by
  have h1 : nd (vf a n) ≤ n := nd_le.2 (vf_lt ha)
  rcases h with rfl | h
  · rfl
  · rcases Nat.lt_or_ge (nd (vf a n)) n with h2 | h2
    · exfalso
      obtain ⟨m, rfl⟩ : ∃ m, n = m + 1 := ⟨n - 1, by omega⟩
      have h3 := nd_le.1 (show nd (vf a (m + 1)) ≤ m from by omega)
      rw [vf] at h3
      simp only [Nat.add_sub_cancel] at h
      have h4 := Nat.mul_le_mul_left (4294967296 ^ m) (show 1 ≤ a m from by omega)
      omega
    · omega
/-- The digits of a slice. -/
structure Dg (w : World) (p : Option Addr) (c n : Nat) (a : Nat → Nat) : Prop where
  cap : n ≤ c
  lt : ∀ j, j < n → a j < 4294967296
  at' : n = 0 ∨ ∃ g o, p = some ⟨g, o, none⟩ ∧ g < w.heap.size ∧ ∀ j, j < n → w.cell? ⟨g, o + j, none⟩ = some (.int .u32 (a j))
/-- .. without leading zeros, of value v. -/
def Nm (w : World) (p : Option Addr) (c v : Nat) : Prop := Dg w p c (nd v) (dg v)
theorem Dg.keep {w w' : World} {p : Option Addr} {c n : Nat} {a : Nat → Nat} (h : Dg w p c n a) (hb : Below w.heap.size w w') : Dg w' p c n a :=
  ⟨h.cap, h.lt, by
    rcases h.at' with h1 | ⟨g, o, e, hg, hc⟩
    · exact .inl h1
    · exact .inr ⟨g, o, e, Nat.lt_of_lt_of_le hg hb.size, fun j hj => (hb.cell (p := ⟨g, o + j, none⟩) hg).trans (hc j hj)⟩⟩
theorem Dg.below {B : Nat} {w w' : World} {g o c n : Nat} {a : Nat → Nat} (h : Dg w (some ⟨g, o, none⟩) c n a) (hb : Below B w w') (hg : g < B) : Dg w' (some ⟨g, o, none⟩) c n a :=
  ⟨h.cap, h.lt, by
    rcases h.at' with h1 | ⟨g', o', e, hg', hc⟩
    · exact .inl h1
    · injection e with e; injection e with e1 e2; subst e1; subst e2
      exact .inr ⟨g, o, rfl, Nat.lt_of_lt_of_le hg' hb.size, fun j hj => (hb.cell (p := ⟨g, o + j, none⟩) hg).trans (hc j hj)⟩⟩
theorem Dg.congr {w : World} {p : Option Addr} {c n : Nat} {a b : Nat → Nat} (h : Dg w p c n a) (e : ∀ j, j < n → a j = b j) : Dg w p c n b :=
  ⟨h.cap, fun j hj => by rw [← e j hj]; exact h.lt j hj, by
    rcases h.at' with h1 | ⟨g, o, e', hg, hc⟩
    · exact .inl h1
    · exact .inr ⟨g, o, e', hg, fun j hj => by rw [← e j hj]; exact hc j hj⟩⟩
theorem Dg.take {w : World} {p : Option Addr} {c n : Nat} {a : Nat → Nat} (h : Dg w p c n a) {k : Nat} (hk : k ≤ n) : Dg w p c k a :=
  ⟨by have := h.cap; omega, fun j hj => h.lt j (by omega), by
    rcases h.at' with h1 | ⟨g, o, e, hg, hc⟩
    · exact .inl (by omega)
    · exact .inr ⟨g, o, e, hg, fun j hj => hc j (by omega)⟩⟩
theorem Dg.head {w : World} {p : Option Addr} {c n : Nat} {a : Nat → Nat} (h : Dg w p c n a) (hn : 0 < n) : ∃ g o, p = some ⟨g, o, none⟩ ∧ g < w.heap.size ∧ ∀ j, j < n → w.cell? ⟨g, o + j, none⟩ = some (.int .u32 (a j)) :=
  h.at'.resolve_left (by omega)
/-- Normal form: the digits of the value. -/
theorem Dg.norm {w : World} {p : Option Addr} {c n : Nat} {a : Nat → Nat} (h : Dg w p c n a) (ht : n = 0 ∨ a (n - 1) ≠ 0) : nd (vf a n) = n ∧ Nm w p c (vf a n) := by
  have h1 := nd_vf h.lt ht
  exact ⟨h1, by unfold Nm; rw [h1]; exact h.congr (dg_vf h.lt)⟩
theorem Nm.keep {w w' : World} {p : Option Addr} {c v : Nat} (h : Nm w p c v) (hb : Below w.heap.size w w') : Nm w' p c v := Dg.keep h hb
theorem Nm.nil (w : World) : Nm w none 0 0 := ⟨Nat.le_refl _, fun j hj => absurd hj (by simp [nd_zero]), .inl nd_zero⟩
/-- A row of digits of one's own. -/
def Row (w : World) (g n : Nat) (a : Nat → Nat) : Prop := w.rowIs g 187 n (fun i => .int .u32 (a i)) ∧ ∀ j, j < n → a j < 4294967296
theorem Row.dg {w : World} {g n : Nat} {a : Nat → Nat} (h : Row w g n a) (c : Nat) (hc : n ≤ c) : Dg w (some ⟨g, 0, none⟩) c n a :=
  ⟨hc, h.2, .inr ⟨g, 0, rfl, h.1.lt, fun j hj => by rw [Nat.zero_add]; exact h.1.cell hj⟩⟩
theorem Row.set {w : World} {g n : Nat} {a : Nat → Nat} (h : Row w g n a) (k d : Nat) (hd : d < 4294967296) : Row (w.setCell ⟨g, k, none⟩ (.int .u32 d)) g n (upd a k d) :=
  ⟨(h.1.set k _).congr (fun i _ => by unfold upd; split <;> rfl), fun j hj => by unfold upd; split; exact hd; exact h.2 j hj⟩
theorem Row.made (w : World) (n : Nat) : Row (w.alloc (.cells (madeCells #[.int .u32 0] n) 187)) w.heap.size n (fun _ => 0) :=
  ⟨World.rowIs_made w _ n _, fun _ _ => (by decide : (0 : Nat) < 4294967296)⟩
theorem Row.below {B : Nat} {w w' : World} {g n : Nat} {a : Nat → Nat} (h : Row w g n a) (hb : Below B w w') (hg : g < B) : Row w' g n a := ⟨h.1.of_block (hb.block g hg), h.2⟩
theorem Row.congr {w : World} {g n : Nat} {a b : Nat → Nat} (h : Row w g n a) (e : ∀ j, j < n → a j = b j) : Row w g n b :=
  ⟨h.1.congr (fun i hi => by rw [e i hi]), fun j hj => by rw [← e j hj]; exact h.2 j hj⟩
theorem Row.alloc (w : World) (cs : Array Value) (n : Nat) (a : Nat → Nat) (hn : cs.size = n) (h : ∀ i, i < n → cs[i]? = some (.int .u32 (a i))) (hl : ∀ i, i < n → a i < 4294967296) : Row (w.alloc (.cells cs 187)) w.heap.size n a := by
  subst hn
  exact ⟨World.rowIs_alloc w cs _ _ h, hl⟩
theorem vf_cmp {a b : Nat → Nat} {n i : Nat} (hi : i < n) (ha : ∀ j, j < n → a j < 4294967296) (h : ∀ j, i < j → j < n → a j = b j) (hlt : a i < b i) : vf a n < vf b n := by
  obtain ⟨k, rfl⟩ : ∃ k, n = (i + 1) + k := ⟨n - (i + 1), by omega⟩
  rw [vf_split, vf_split b, vf_congr (a := shf a (i + 1)) (b := shf b (i + 1)) (n := k) (fun j hj => h (i + 1 + j) (by omega) (by omega)), vf, vf]
  have h1 := vf_lt (a := a) (n := i) (fun j hj => ha j (by omega))
  have h2 := Nat.mul_le_mul_left (4294967296 ^ i) (show a i + 1 ≤ b i from hlt)
  rw [Nat.mul_add, Nat.mul_one] at h2
  omega
theorem nd_cmp {u v : Nat} (h : nd u < nd v) : u < v := by
  rcases Nat.lt_or_ge u v with h1 | h1
  · exact h1
  · have := nd_mono h1; omega
theorem or64 (y x : Nat) (hy : y < 4294967296) (hx : x < 4294967296) : bits .or .u64 ((y : Int) * 4294967296) (x : Int) = ((x + 4294967296 * y : Nat) : Int) := by
  rw [show (y : Int) * 4294967296 = ((2 ^ 32 * y : Nat) : Int) from by omega, bits_or_u64_nat _ _ (by omega) (by omega), ← Nat.two_pow_add_eq_or_of_lt (show x < 2 ^ 32 from hx)]
  omega
/-- A slice of k digits of value t is returned. -/
def RetD (w' : World) (e : Ending) (k t : Nat) : Prop := ∃ p c r, e = .returned (.slice p k c) ∧ Dg w' p c k r ∧ vf r k = t
/-- .. without leading zeros. -/
def RetN (w' : World) (e : Ending) (v : Nat) : Prop := ∃ p c, e = .returned (.slice p (nd v) c) ∧ Nm w' p c v
theorem u32Info : (Tryz.prog.info? 187).map (fun i => (i.zero, i.size, i.bytes)) = some (some (.int .u32 0), 1, 4) := by kernel_rfl
theorem make32 (n : Nat) (h : n ≤ 70368744177664) (w : World) :
    (Instr.makeSlice 31 (.int .i64 (n : Int)) (.int .i64 (n : Int))).run Tryz.prog w = .ok (.slice (some ⟨w.heap.size, 0, none⟩) n n) (w.alloc (.cells (madeCells #[.int .u32 0] n) 187)) :=
  run_make_row' 31 187 (.int .u32 0) 4 Tryz.underlying31 u32Info rfl .i64 .i64 n (by omega) (by omega) w
end Go.Proofs.YthikonjlgljikaaGreatDoor
namespace Go.Proofs.YthikonjlgljikaaGreatDoor
open Go.RowKit

theorem c_trimmed (p : Option Addr) (c n : Nat) (a : Nat → Nat) (w : World) (h : Dg w p c n a) (hn : n ≤ 70368744177664) :
    Calls Tryz.prog 124 #[.slice p n c] w fun e w' => (e = .returned (.slice p (nd (vf a n)) c) ∧ Nm w p c (vf a n)) ∧ w' = w := by
  have H := Lib.hid h
  have hcap := h.cap
  clear h
  go_enter Tryz.func124, Tryz.ntmps124
  go_wp2
  go_loop [0] (fun m => ∃ k : Nat, m = .slice p k c ∧ k ≤ n ∧ vf a k = vf a n) (fun m => (match m with | .slice _ k _ => k | _ => 0))
  case atStart => exact ⟨n, rfl, Nat.le_refl _, rfl⟩
  case round =>
    obtain ⟨k, rfl, hk, hv⟩ := hrel
    have HV := Lib.hid hv
    clear hv
    by_cases h0 : k = 0
    · subst h0
      have hd := (H.out.take hk).norm (.inl rfl)
      rw [HV.out] at hd
      have HD := Lib.hid hd
      clear hd
      go_wp2
      go_ret
      exact ⟨⟨by rw [HD.out.1]; rfl, HD.out.2⟩, rfl⟩
    · have hk0 : 0 < k := by omega
      obtain ⟨g, o, rfl, hg, hc⟩ := H.out.head (by omega)
      have c1 := hc (k - 1) (by omega)
      have e1 : ((k : Int) - 1).toNat = k - 1 := by omega
      clear hc
      by_cases hz : a (k - 1) = 0
      · have HZ := Lib.hid hz
        rw [hz] at c1
        clear hz
        go_wp2
        go_round
        case rel => exact ⟨k - 1, rfl, by omega, by
          rw [← HV.out]; obtain ⟨m, rfl⟩ : ∃ m, k = m + 1 := ⟨k - 1, by omega⟩
          rw [vf]; have := HZ.out; simp only [Nat.add_sub_cancel] at this ⊢; rw [this]; simp⟩
        case measure => simp only; omega
      · have hd := (H.out.take hk).norm (.inr hz)
        rw [HV.out] at hd
        have HD := Lib.hid hd
        have hzz : (((a (k - 1) : Nat) : Int) == 0) = false := beq_eq_false_iff_ne.2 (by omega)
        clear hd hz
        go_wp2
        go_ret
        exact ⟨⟨by rw [HD.out.1]; rfl, HD.out.2⟩, rfl⟩

theorem c_sign (n : Int) (w : World) :
    Calls Tryz.prog 211 #[.int .i64 n] w fun e w' => e = .returned (.int .i64 (Int.sign n)) ∧ w' = w := by
  go_enter Tryz.func211, Tryz.ntmps211
  go_wp2
  all_goals go_ret
  all_goals refine ⟨ret_i ?_, rfl⟩
  all_goals try simp only [decide_eq_true_eq, decide_eq_false_iff_not, Int.not_lt] at *
  all_goals first | exact (Int.sign_eq_neg_one_of_neg (by omega)).symm | exact (Int.sign_eq_one_of_pos (by omega)).symm | (rw [show n = 0 from by omega]; rfl)
theorem nd_one {v : Nat} (h0 : v ≠ 0) (h : v < 4294967296) : nd v = 1 := by
  have h1 := nd_pos.2 h0
  have h2 := (nd_le (v := v) (k := 1)).2 (by omega)
  omega
theorem nd_two {v : Nat} (h0 : 4294967296 ≤ v) (h : v < 18446744073709551616) : nd v = 2 := by
  have h2 := (nd_le (v := v) (k := 2)).2 (by omega)
  have h3 : ¬ nd v ≤ 1 := fun h4 => by have := nd_le.1 h4; omega
  omega
set_option maxRecDepth 100000 in
theorem c_wide (v : Nat) (w : World) (hv : v < 18446744073709551616) :
    Calls Tryz.prog 120 #[.int .u64 v] w fun e w' => RetN w' e v ∧ Below w.heap.size w w' := by
  go_enter Tryz.func120, Tryz.ntmps120
  by_cases h0 : v = 0
  · subst h0
    go_wp2
    go_ret
    exact ⟨⟨none, 0, rfl, Nm.nil _⟩, Below.refl _ _⟩
  · have h0b : ((v : Int) == 0) = false := beq_eq_false_iff_ne.2 (by omega)
    have hvi : (v : Int) < 18446744073709551616 := by omega
    have H0 := Lib.hid h0
    have HV := Lib.hid hv
    by_cases h1 : (v : Int) < 4294967296
    · have em : (v : Int) % 4294967296 = v := by omega
      clear hv h0
      go_wp2
      go_ret
      have hn := nd_one H0.out (by omega)
      refine ⟨⟨_, 1, by rw [hn]; rfl, ?_⟩, (Below.refl _ _).alloc (Nat.le_refl _) _⟩
      unfold Nm
      rw [hn]
      refine (Row.alloc w _ 1 (dg v) rfl (fun i hi => ?_) (fun i _ => dg_lt v i)).dg 1 (Nat.le_refl _)
      obtain rfl : i = 0 := by omega
      simp [dg]; omega
    · clear hv h0
      go_wp2
      go_ret
      have hn := nd_two (by omega) HV.out
      refine ⟨⟨_, 2, by rw [hn]; rfl, ?_⟩, (Below.refl _ _).alloc (Nat.le_refl _) _⟩
      unfold Nm
      rw [hn]
      refine (Row.alloc w _ 2 (dg v) rfl (fun i hi => ?_) (fun i _ => dg_lt v i)).dg 2 (Nat.le_refl _)
      rcases Nat.lt_or_ge i 1 with h2 | h2
      · obtain rfl : i = 0 := by omega
        simp [dg]
      · obtain rfl : i = 1 := by omega
        simp [dg]; omega

set_option maxRecDepth 100000 in
theorem c_word (p : Option Addr) (c n : Nat) (a : Nat → Nat) (w : World) (h : Dg w p c n a) (hn : n ≤ 2) :
    Calls Tryz.prog 213 #[.slice p n c] w fun e w' => e = .returned (.int .u64 (vf a n : Nat)) ∧ ∃ k, w' = w.drewN k := by
  by_cases h0 : n = 0
  · subst h0
    go_enter Tryz.func213, Tryz.ntmps213
    go_wp2
    go_ret
    exact ⟨rfl, 0, rfl⟩
  · obtain ⟨g, o, rfl, hg, hc⟩ := h.head (by omega)
    have l0 := h.lt 0 (by omega)
    have c0 := hc 0 (by omega)
    obtain ⟨x, hx⟩ : ∃ x, a 0 = x := ⟨_, rfl⟩
    rw [hx] at l0 c0
    rw [Nat.add_zero] at c0
    have hxi : (x : Int) < 4294967296 := by omega
    by_cases h1 : n = 1
    · subst h1
      have hv : vf a 1 = x := by simp [vf, hx]
      have HV := Lib.hid hv
      clear hc h hx l0 hv
      go_enter Tryz.func213, Tryz.ntmps213
      go_wp2
      go_ret
      exact ⟨ret_i (by rw [HV.out]), 0, rfl⟩
    · obtain rfl : n = 2 := by omega
      have l1 := h.lt 1 (by omega)
      have c1 := hc 1 (by omega)
      obtain ⟨y, hy⟩ : ∃ y, a 1 = y := ⟨_, rfl⟩
      rw [hy] at l1 c1
      have hyi : (y : Int) < 4294967296 := by omega
      have hv : vf a 2 = x + 4294967296 * y := by simp [vf, hx, hy]
      have HV := Lib.hid hv
      clear hc h hx hy l0 l1 hv
      go_enter Tryz.func213, Tryz.ntmps213
      go_wp2
      go_quiet (fail)
      go_wp2
      go_ret
      exact ⟨ret_i (by rw [HV.out]; exact or64 _ _ (by omega) (by omega)), nq, rfl⟩

theorem cmp_lt {u v : Nat} (h : u < v) : Int.sign ((u : Int) - v) = -1 := Int.sign_eq_neg_one_of_neg (by omega)
theorem cmp_gt {u v : Nat} (h : v < u) : Int.sign ((u : Int) - v) = 1 := Int.sign_eq_one_of_pos (by omega)
theorem cmp_nd {u v : Nat} (h : nd u ≠ nd v) : Int.sign ((nd u : Int) - nd v) = Int.sign ((u : Int) - v) := by
  rcases Nat.lt_or_gt_of_ne h with h1 | h1
  · rw [cmp_lt h1, cmp_lt (nd_cmp h1)]
  · rw [cmp_gt h1, cmp_gt (nd_cmp h1)]
set_option maxRecDepth 100000 in
theorem c_cmpEq (p : Option Addr) (c : Nat) (q : Option Addr) (d n : Nat) (a b : Nat → Nat) (s : Int) (w : World) (h1 : Dg w p c n a) (h2 : Dg w q d n b) (hn : n ≤ 70368744177664) (hs : Int.sign ((vf a n : Int) - (vf b n : Nat)) = s) :
    Calls Tryz.prog 181 #[.slice p n c, .slice q n d] w fun e w' => e = .returned (.int .i64 s) ∧ ∃ k, w' = w.drewN k := by
  have H1 := Lib.hid h1
  have H2 := Lib.hid h2
  have HS := Lib.hid hs
  clear h1 h2 hs
  go_enter Tryz.func181, Tryz.ntmps181
  go_wp2
  go_loopw [5] (fun i wr => ∃ k : Nat, k ≤ n ∧ i = .int .i64 ((k : Int) - 1) ∧ (∀ j, k ≤ j → j < n → a j = b j) ∧ ∃ m, wr = w.drewN m) (fun i _ => (intOf i + 1).toNat)
  case atStart => exact ⟨n, Nat.le_refl _, by go_num, fun j h1 h2 => by omega, 0, rfl⟩
  case round =>
    obtain ⟨k, hk, rfl, heq, mr, rfl⟩ := hrel
    have HE := Lib.hid heq
    clear heq
    by_cases h0 : k = 0
    · subst h0
      go_wp2
      go_ret
      refine ⟨ret_i ?_, mr, rfl⟩
      rw [← HS.out, vf_congr fun i hi => HE.out i (by omega) hi]; simp
    · have hk0 : 0 < k := by omega
      obtain ⟨g1, o1, rfl, hg1, hc1⟩ := H1.out.head (by omega)
      obtain ⟨g2, o2, rfl, hg2, hc2⟩ := H2.out.head (by omega)
      have c1 := hc1 (k - 1) (by omega)
      have c2 := hc2 (k - 1) (by omega)
      have e1 : ((k : Int) - 1).toNat = k - 1 := by omega
      have hki : (1 : Int) ≤ (k : Int) := by omega
      obtain ⟨x, hx⟩ : ∃ x, a (k - 1) = x := ⟨_, rfl⟩
      obtain ⟨y, hy⟩ : ∃ y, b (k - 1) = y := ⟨_, rfl⟩
      rw [hx] at c1
      rw [hy] at c2
      have HX := Lib.hid hx
      have HY := Lib.hid hy
      clear hc1 hc2 hx hy
      by_cases hxy : x = y
      · subst hxy
        go_wp2
        go_quiet (fail)
        go_wp2
        go_roundw
        case rel => exact ⟨k - 1, by omega, by go_num, fun j h1 h2 => by
          rcases Nat.lt_or_ge j k with h3 | h3
          · rw [show j = k - 1 from by omega, HX.out, HY.out]
          · exact HE.out j h3 h2, _, rfl⟩
        case measure => simp [intOf]; omega
      · have hxyb : ((x : Int) != (y : Int)) = true := by rw [bne_iff_ne]; omega
        have HL := Lib.hid hxy
        clear hxy
        by_cases hlt : (x : Int) < (y : Int)
        · have hv := vf_cmp (a := a) (b := b) (n := n) (i := k - 1) (by omega) H1.out.lt (fun j h1 h2 => HE.out j (by omega) h2) (by rw [HX.out, HY.out]; omega)
          have hsv := cmp_lt hv
          rw [HS.out] at hsv
          have HSV := Lib.hid hsv
          clear hv hsv
          go_wp2
          go_quiet (fail)
          go_wp2
          go_quiet (fail)
          go_wp2
          go_ret
          exact ⟨ret_i HSV.out.symm, _, by rw [dr2, dr2]⟩
        · have hv := vf_cmp (a := b) (b := a) (n := n) (i := k - 1) (by omega) H2.out.lt (fun j h1 h2 => (HE.out j (by omega) h2).symm) (by rw [HX.out, HY.out]; have := HL.out; omega)
          have hsv := cmp_gt hv
          rw [HS.out] at hsv
          have HSV := Lib.hid hsv
          clear hv hsv
          go_wp2
          go_quiet (fail)
          go_wp2
          go_quiet (fail)
          go_wp2
          go_ret
          exact ⟨ret_i HSV.out.symm, _, by rw [dr2, dr2]⟩
set_option maxRecDepth 100000 in
theorem c_compare (p : Option Addr) (c u : Nat) (q : Option Addr) (d v : Nat) (w : World) (h : Nm w p c u) (h' : Nm w q d v) (hu : nd u ≤ 70368744177664) (hv : nd v ≤ 70368744177664) :
    Calls Tryz.prog 181 #[.slice p (nd u) c, .slice q (nd v) d] w fun e w' => e = .returned (.int .i64 (Int.sign ((u : Int) - v))) ∧ ∃ k, w' = w.drewN k := by
  by_cases hne : nd v = nd u
  · have h2 : Dg w q d (nd u) (dg v) := by rw [← hne]; exact h'
    have hvv : vf (dg v) (nd u) = v := by rw [← hne]; exact vf_nd v
    rw [hne]
    exact c_cmpEq p c q d (nd u) (dg u) (dg v) _ w h h2 hu (by rw [vf_nd, hvv])
  · have hs := cmp_nd (Ne.symm hne)
    have hneb : ((nd u : Int) != (nd v : Int)) = true := by rw [bne_iff_ne]; omega
    generalize Int.sign ((u : Int) - v) = s at *
    generalize nd u = n at *
    generalize nd v = m at *
    have HS := Lib.hid hs
    clear h h' hs hne
    go_enter Tryz.func181, Tryz.ntmps181
    go_wp2_with (go_at_call 211; refine (c_sign _ _).mono ?_; rw [HS.out]; rintro e w' ⟨rfl, rfl⟩)
    go_ret
    exact ⟨rfl, 0, rfl⟩
end Go.Proofs.YthikonjlgljikaaGreatDoor
