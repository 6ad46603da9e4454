/- Digits to base 2^32: values, normal forms, lengths. No program in sight. Digits to base 2^32 as functions of the index: values, updates, splits; slices of digits in memory. Rationals: what reducing, adding and multiplying fractions give, and how long numerators and denominators are. No program in sight. Polynomials under a linear substitution: (aX + bY)^i (cX + dY)^(w-i), and sums of such. No program in sight. -/
import Derived.Test.YthikonjlgljikaaGreatDoorIm401
import Derived.Deep.OwnRows
import Derived.Laws.Bits64b
namespace Go.Proofs.YthikonjlgljikaaGreatDoor.Dig

/-- The value of a list of digits, least significant first. -/
def val : List Nat → Nat
  | [] => 0
  | d :: l => d + 4294967296 * val l
/-- All are digits. -/
def okd (l : List Nat) : Prop := ∀ d ∈ l, d < 4294967296
def digF : Nat → Nat → List Nat
  | 0, _ => []
  | f+1, n => if n = 0 then [] else n % 4294967296 :: digF f (n / 4294967296)
/-- The digits of a number, without leading zeros. -/
def dig (n : Nat) : List Nat := digF n n

theorem digF_eq : ∀ (f g n : Nat), n ≤ f → n ≤ g → digF f n = digF g n
  | 0, 0, _, _, _ => rfl
  | 0, g+1, n, h, _ => by
    have : n = 0 := by omega
    subst this; simp [digF]
  | f+1, 0, n, _, h => by
    have : n = 0 := by omega
    subst this; simp [digF]
  | f+1, g+1, n, h, h' => by
    rw [digF, digF]
    split
    · rfl
    · rename_i h0
      have : n / 4294967296 < n := Nat.div_lt_self (by omega) (by omega)
      rw [digF_eq f g _ (by omega) (by omega)]
theorem dig_zero : dig 0 = [] := rfl
theorem dig_pos {n : Nat} (h : n ≠ 0) : dig n = n % 4294967296 :: dig (n / 4294967296) := by
  obtain ⟨m, rfl⟩ : ∃ m, n = m + 1 := ⟨n - 1, by omega⟩
  unfold dig
  rw [digF, if_neg h]
  have : (m + 1) / 4294967296 < m + 1 := Nat.div_lt_self (by omega) (by omega)
  rw [digF_eq m ((m + 1) / 4294967296) _ (by omega) (Nat.le_refl _)]
theorem val_dig (n : Nat) : val (dig n) = n := by
  induction n using Nat.strongRecOn with
  | _ n ih =>
    by_cases h : n = 0
    · subst h; rfl
    · rw [dig_pos h, val, ih _ (Nat.div_lt_self (by omega) (by omega))]; omega
theorem okd_dig (n : Nat) : okd (dig n) := by
  induction n using Nat.strongRecOn with
  | _ n ih =>
    by_cases h : n = 0
    · subst h; intro d hd; cases hd
    · rw [dig_pos h]
      intro d hd
      rcases List.mem_cons.1 hd with rfl | hd
      · omega
      · exact ih _ (Nat.div_lt_self (by omega) (by omega)) d hd
theorem okd_nil : okd [] := fun d hd => by cases hd
theorem okd_cons {d : Nat} {l : List Nat} : okd (d :: l) ↔ d < 4294967296 ∧ okd l :=
  ⟨fun h => ⟨h d (List.mem_cons_self ..), fun x hx => h x (List.mem_cons_of_mem _ hx)⟩, fun h x hx => by
    rcases List.mem_cons.1 hx with rfl | hx
    · exact h.1
    · exact h.2 x hx⟩
theorem okd_append {a b : List Nat} : okd (a ++ b) ↔ okd a ∧ okd b :=
  ⟨fun h => ⟨fun x hx => h x (List.mem_append_left _ hx), fun x hx => h x (List.mem_append_right _ hx)⟩, fun h x hx => by
    rcases List.mem_append.1 hx with hx | hx
    · exact h.1 x hx
    · exact h.2 x hx⟩
theorem okd_replicate (n : Nat) : okd (List.replicate n 0) := fun d hd => by rw [List.eq_of_mem_replicate hd]; omega
theorem okd_take {l : List Nat} (h : okd l) (k : Nat) : okd (l.take k) := fun d hd => h d (List.mem_of_mem_take hd)
theorem okd_drop {l : List Nat} (h : okd l) (k : Nat) : okd (l.drop k) := fun d hd => h d (List.mem_of_mem_drop hd)
theorem okd_get {l : List Nat} (h : okd l) (k : Nat) (hk : k < l.length) : l[k] < 4294967296 := h _ (List.getElem_mem hk)
theorem val_append (a b : List Nat) : val (a ++ b) = val a + 4294967296 ^ a.length * val b := by
  induction a with
  | nil => simp [val]
  | cons d a ih => rw [List.cons_append, val, val, ih, List.length_cons, Nat.pow_succ, Nat.mul_add]; rw [Nat.mul_comm (4294967296 ^ a.length) 4294967296, Nat.mul_assoc]; omega
theorem val_replicate (n : Nat) : val (List.replicate n 0) = 0 := by
  induction n with
  | zero => rfl
  | succ n ih => rw [List.replicate_succ, val, ih]
theorem val_lt {l : List Nat} (h : okd l) : val l < 4294967296 ^ l.length := by
  induction l with
  | nil => simp [val]
  | cons d l ih =>
    rw [okd_cons] at h
    have := ih h.2
    rw [val, List.length_cons, Nat.pow_succ]
    have h2 : val l + 1 ≤ 4294967296 ^ l.length := this
    have h3 := Nat.mul_le_mul_left 4294967296 h2
    rw [Nat.mul_comm (4294967296 ^ l.length)]
    omega
theorem pow_pos (k : Nat) : 0 < 4294967296 ^ k := Nat.pow_pos (by omega)
/-- Lists of digits of one length with one value are equal. -/
theorem val_inj : ∀ {a b : List Nat}, okd a → okd b → a.length = b.length → val a = val b → a = b
  | [], [], _, _, _, _ => rfl
  | [], _ :: _, _, _, h, _ => by simp at h
  | _ :: _, [], _, _, h, _ => by simp at h
  | x :: a, y :: b, ha, hb, hl, hv => by
    rw [okd_cons] at ha hb
    rw [val, val] at hv
    have h1 : x = y := by omega
    subst h1
    rw [val_inj ha.2 hb.2 (by simpa using hl) (by omega)]
theorem dig_lt {n k : Nat} : (dig n).length ≤ k ↔ n < 4294967296 ^ k := by
  induction k generalizing n with
  | zero =>
    by_cases h : n = 0
    · subst h; simp [dig_zero]
    · rw [dig_pos h]; simp; omega
  | succ k ih =>
    by_cases h : n = 0
    · subst h; have := pow_pos (k + 1); simp [dig_zero]; omega
    · rw [dig_pos h, List.length_cons, Nat.pow_succ, Nat.add_le_add_iff_right, ih, Nat.div_lt_iff_lt_mul (by omega)]
theorem dig_length_pos {n : Nat} : 0 < (dig n).length ↔ n ≠ 0 := by
  by_cases h : n = 0
  · subst h; simp [dig_zero]
  · rw [dig_pos h]; simp; exact h
theorem dig_nil {n : Nat} (h : (dig n).length = 0) : n = 0 := by
  by_cases h0 : n = 0
  · exact h0
  · have := dig_length_pos.2 h0; omega
/-- A list of digits that does not end in 0 is the digits of its value. -/
theorem dig_val {l : List Nat} (h : okd l) (hl : ∀ d, l.getLast? = some d → d ≠ 0) : dig (val l) = l := by
  induction l with
  | nil => rfl
  | cons x l ih =>
    rw [okd_cons] at h
    by_cases hn : l = []
    · subst hn
      have hx : x ≠ 0 := hl x rfl
      rw [val, val, dig_pos (by omega)]
      rw [show (x + 4294967296 * 0) / 4294967296 = 0 from by omega, dig_zero, show (x + 4294967296 * 0) % 4294967296 = x from by omega]
    · have ih' := ih h.2 (fun d hd => hl d (by rw [List.getLast?_cons_of_ne_nil hn]; exact hd))
      have hv : val l ≠ 0 := by
        intro h0
        rw [h0, dig_zero] at ih'
        exact hn ih'.symm
      rw [val, dig_pos (by omega), show (x + 4294967296 * val l) / 4294967296 = val l from by omega, show (x + 4294967296 * val l) % 4294967296 = x from by omega, ih']
/-- A leading zero is dropped. -/
theorem dig_snoc_zero (l : List Nat) : val (l ++ [0]) = val l := by rw [val_append]; simp [val]
theorem dig_last {n : Nat} (d : Nat) (h : (dig n).getLast? = some d) : d ≠ 0 := by
  induction n using Nat.strongRecOn with
  | _ n ih =>
    by_cases h0 : n = 0
    · subst h0; simp [dig_zero] at h
    · rw [dig_pos h0] at h
      by_cases h1 : n / 4294967296 = 0
      · rw [h1, dig_zero] at h
        simp at h
        omega
      · rw [List.getLast?_cons_of_ne_nil (by rw [dig_pos h1]; simp)] at h
        exact ih _ (Nat.div_lt_self (by omega) (by omega)) h
theorem dig_top {n : Nat} (h : n ≠ 0) : 4294967296 ^ ((dig n).length - 1) ≤ n := by
  rcases Nat.lt_or_ge n (4294967296 ^ ((dig n).length - 1)) with hlt | hge
  · have := dig_lt.2 hlt
    have := dig_length_pos.2 h
    omega
  · exact hge
theorem dig_mono {a b : Nat} (h : a ≤ b) : (dig a).length ≤ (dig b).length :=
  dig_lt.2 (Nat.lt_of_le_of_lt h (dig_lt.1 (Nat.le_refl _)))
theorem dig_add_len (a b : Nat) : (dig (a + b)).length ≤ max (dig a).length (dig b).length + 1 := by
  rw [dig_lt, Nat.pow_succ]
  have h1 := dig_lt.1 (show (dig a).length ≤ max (dig a).length (dig b).length from by omega)
  have h2 := dig_lt.1 (show (dig b).length ≤ max (dig a).length (dig b).length from by omega)
  omega
theorem dig_mul_len (a b : Nat) : (dig (a * b)).length ≤ (dig a).length + (dig b).length := by
  rw [dig_lt, Nat.pow_add]
  exact Nat.mul_lt_mul'' (dig_lt.1 (Nat.le_refl _)) (dig_lt.1 (Nat.le_refl _))
end Go.Proofs.YthikonjlgljikaaGreatDoor.Dig
namespace Go.Proofs.YthikonjlgljikaaGreatDoor
open Go.RowKit

/-- The value of the first n digits. -/
def vf (a : Nat → Nat) : Nat → Nat
  | 0 => 0
  | n + 1 => vf a n + 4294967296 ^ n * a n
def shf (a : Nat → Nat) (m : Nat) : Nat → Nat := fun i => a (m + i)
def upd (a : Nat → Nat) (k d : Nat) : Nat → Nat := fun j => if j = k then d else a j
theorem vf_congr {a b : Nat → Nat} {n : Nat} (h : ∀ i, i < n → a i = b i) : vf a n = vf b n := by
  induction n with
  | zero => rfl
  | succ n ih => rw [vf, vf, ih (fun i hi => h i (by omega)), h n (by omega)]
theorem pow_succ' (n : Nat) : 4294967296 ^ (n + 1) = 4294967296 * 4294967296 ^ n := by rw [Nat.pow_succ, Nat.mul_comm]
theorem vf_lt {a : Nat → Nat} {n : Nat} (h : ∀ i, i < n → a i < 4294967296) : vf a n < 4294967296 ^ n := by
  induction n with
  | zero => simp [vf]
  | succ n ih =>
    rw [vf, pow_succ']
    have h1 := ih (fun i hi => h i (by omega))
    have h2 := Nat.mul_le_mul_left (4294967296 ^ n) (show a n ≤ 4294967295 from by have := h n (by omega); omega)
    rw [Nat.mul_comm _ 4294967295] at h2
    generalize 4294967296 ^ n * a n = y at *
    generalize 4294967296 ^ n = x at *
    omega
theorem vf_head (a : Nat → Nat) (n : Nat) : vf a (n + 1) = a 0 + 4294967296 * vf (shf a 1) n := by
  induction n with
  | zero => simp [vf]
  | succ n ih =>
    rw [vf, ih, vf, pow_succ', Nat.mul_assoc, Nat.mul_add, show shf a 1 n = a (n + 1) from by simp [shf, Nat.add_comm]]
    omega
theorem vf_split (a : Nat → Nat) (m n : Nat) : vf a (m + n) = vf a m + 4294967296 ^ m * vf (shf a m) n := by
  induction n with
  | zero => simp [vf]
  | succ n ih =>
    rw [← Nat.add_assoc, vf, ih, vf, Nat.pow_add, Nat.mul_add, Nat.mul_assoc, show shf a m n = a (m + n) from rfl]
    omega
theorem vf_zero {a : Nat → Nat} {n : Nat} (h : ∀ i, i < n → a i = 0) : vf a n = 0 := by
  induction n with
  | zero => rfl
  | succ n ih => rw [vf, ih (fun i hi => h i (by omega)), h n (by omega)]; simp
theorem vf_tail {a : Nat → Nat} {m n : Nat} (hm : m ≤ n) (h : ∀ i, m ≤ i → i < n → a i = 0) : vf a n = vf a m := by
  obtain ⟨k, rfl⟩ : ∃ k, n = m + k := ⟨n - m, by omega⟩
  rw [vf_split, vf_zero (a := shf a m) (n := k) (fun i hi => h (m + i) (by omega) (by omega))]
  simp
theorem vf_upd_ge {a : Nat → Nat} {k d n : Nat} (h : n ≤ k) : vf (upd a k d) n = vf a n :=
  vf_congr fun i hi => by unfold upd; rw [if_neg (by omega)]
theorem vf_upd {a : Nat → Nat} {k d n : Nat} (h : k < n) : vf (upd a k d) n + 4294967296 ^ k * a k = vf a n + 4294967296 ^ k * d := by
  induction n with
  | zero => omega
  | succ n ih =>
    rw [vf, vf]
    by_cases hk : k = n
    · subst hk
      rw [vf_upd_ge (Nat.le_refl _), show upd a k d k = d from by simp [upd]]
      omega
    · have h1 := ih (by omega)
      rw [show upd a k d n = a n from by unfold upd; rw [if_neg (by omega)]]
      omega
theorem vf_inj {a b : Nat → Nat} {n : Nat} (ha : ∀ i, i < n → a i < 4294967296) (hb : ∀ i, i < n → b i < 4294967296) (h : vf a n = vf b n) : ∀ i, i < n → a i = b i := by
  induction n generalizing a b with
  | zero => intro i hi; omega
  | succ n ih =>
    rw [vf_head, vf_head] at h
    have h0 := ha 0 (by omega)
    have h1 := hb 0 (by omega)
    have h2 := ih (a := shf a 1) (b := shf b 1) (fun i hi => ha (1 + i) (by omega)) (fun i hi => hb (1 + i) (by omega)) (by omega)
    intro i hi
    cases i with
    | zero => omega
    | succ i => have := h2 i (by omega); unfold shf at this; rwa [Nat.add_comm] at this
/-- The number of digits. -/
def nd (v : Nat) : Nat := (Dig.dig v).length
def dg (v : Nat) (i : Nat) : Nat := v / 4294967296 ^ i % 4294967296
theorem dg_lt (v i : Nat) : dg v i < 4294967296 := Nat.mod_lt _ (by omega)
theorem nd_le {v k : Nat} : nd v ≤ k ↔ v < 4294967296 ^ k := Dig.dig_lt
theorem nd_mono {a b : Nat} (h : a ≤ b) : nd a ≤ nd b := Dig.dig_mono h
theorem nd_add (a b : Nat) : nd (a + b) ≤ max (nd a) (nd b) + 1 := Dig.dig_add_len a b
theorem nd_mul (a b : Nat) : nd (a * b) ≤ nd a + nd b := Dig.dig_mul_len a b
theorem nd_zero : nd 0 = 0 := rfl
theorem nd_pos {v : Nat} : 0 < nd v ↔ v ≠ 0 := Dig.dig_length_pos
theorem nd_top {v : Nat} (h : v ≠ 0) : 4294967296 ^ (nd v - 1) ≤ v := Dig.dig_top h
theorem shf_dg (v m : Nat) : shf (dg v) m = dg (v / 4294967296 ^ m) := by
  funext i
  unfold shf dg
  rw [Nat.div_div_eq_div_mul, Nat.pow_add]
theorem vf_dg_mod (v n : Nat) : vf (dg v) n = v % 4294967296 ^ n := by
  induction n with
  | zero => simp [vf, Nat.mod_one]
  | succ n ih => rw [vf, ih, Nat.pow_succ, Nat.mod_mul]; rfl
theorem vf_dg {v n : Nat} (h : v < 4294967296 ^ n) : vf (dg v) n = v := by rw [vf_dg_mod, Nat.mod_eq_of_lt h]
theorem vf_nd (v : Nat) : vf (dg v) (nd v) = v := vf_dg (nd_le.1 (Nat.le_refl _))
theorem dg_vf {a : Nat → Nat} {n : Nat} (ha : ∀ i, i < n → a i < 4294967296) : ∀ i, i < n → a i = dg (vf a n) i :=
  vf_inj ha (fun i _ => dg_lt _ i) (vf_dg (vf_lt ha)).symm
theorem nd_vf {a : Nat → Nat} {n : Nat} (ha : ∀ i, i < n → a i < 4294967296) (h : n = 0 ∨ a (n - 1) ≠ 0) : nd (vf a n) = n := by
  have h1 : nd (vf a n) ≤ n := nd_le.2 (vf_lt ha)
  rcases h with rfl | h
  · rfl
  · rcases Nat.lt_or_ge (nd (vf a n)) n with h2 | h2
    · exfalso
      obtain ⟨m, rfl⟩ : ∃ m, n = m + 1 := ⟨n - 1, by omega⟩
      have h3 := nd_le.1 (show nd (vf a (m + 1)) ≤ m from by omega)
      rw [vf] at h3
      simp only [Nat.add_sub_cancel] at h
      have h4 := Nat.mul_le_mul_left (4294967296 ^ m) (show 1 ≤ a m from by omega)
      omega
    · omega
theorem dg_top {v : Nat} (h : v ≠ 0) : dg v (nd v - 1) ≠ 0 := by
  have h1 := nd_top h
  have h2 := nd_le.1 (Nat.le_refl (nd v))
  have h3 := nd_pos.2 h
  obtain ⟨m, hm⟩ : ∃ m, nd v = m + 1 := ⟨nd v - 1, by omega⟩
  rw [hm] at h1 h2 ⊢
  simp only [Nat.add_sub_cancel] at *
  unfold dg
  have h4 : 1 ≤ v / 4294967296 ^ m := (Nat.le_div_iff_mul_le (Dig.pow_pos m)).2 (by omega)
  have h5 : v / 4294967296 ^ m < 4294967296 := by rw [Nat.div_lt_iff_lt_mul (Dig.pow_pos m), ← pow_succ']; exact h2
  rw [Nat.mod_eq_of_lt h5]; omega

/-- The digits of a slice. -/
structure Dg (w : World) (p : Option Addr) (c n : Nat) (a : Nat → Nat) : Prop where
  cap : n ≤ c
  lt : ∀ j, j < n → a j < 4294967296
  at' : n = 0 ∨ ∃ g o, p = some ⟨g, o, none⟩ ∧ g < w.heap.size ∧ ∀ j, j < n → w.cell? ⟨g, o + j, none⟩ = some (.int .u32 (a j))
/-- .. without leading zeros, of value v. -/
def Nm (w : World) (p : Option Addr) (c v : Nat) : Prop := Dg w p c (nd v) (dg v)
theorem Dg.keep {w w' : World} {p : Option Addr} {c n : Nat} {a : Nat → Nat} (h : Dg w p c n a) (hb : Below w.heap.size w w') : Dg w' p c n a :=
  ⟨h.cap, h.lt, by
    rcases h.at' with h1 | ⟨g, o, e, hg, hc⟩
    · exact .inl h1
    · exact .inr ⟨g, o, e, Nat.lt_of_lt_of_le hg hb.size, fun j hj => (hb.cell (p := ⟨g, o + j, none⟩) hg).trans (hc j hj)⟩⟩
theorem Dg.below {B : Nat} {w w' : World} {g o c n : Nat} {a : Nat → Nat} (h : Dg w (some ⟨g, o, none⟩) c n a) (hb : Below B w w') (hg : g < B) : Dg w' (some ⟨g, o, none⟩) c n a :=
  ⟨h.cap, h.lt, by
    rcases h.at' with h1 | ⟨g', o', e, hg', hc⟩
    · exact .inl h1
    · injection e with e; injection e with e1 e2; subst e1; subst e2
      exact .inr ⟨g, o, rfl, Nat.lt_of_lt_of_le hg' hb.size, fun j hj => (hb.cell (p := ⟨g, o + j, none⟩) hg).trans (hc j hj)⟩⟩
theorem Dg.congr {w : World} {p : Option Addr} {c n : Nat} {a b : Nat → Nat} (h : Dg w p c n a) (e : ∀ j, j < n → a j = b j) : Dg w p c n b :=
  ⟨h.cap, fun j hj => by rw [← e j hj]; exact h.lt j hj, by
    rcases h.at' with h1 | ⟨g, o, e', hg, hc⟩
    · exact .inl h1
    · exact .inr ⟨g, o, e', hg, fun j hj => by rw [← e j hj]; exact hc j hj⟩⟩
theorem Dg.take {w : World} {p : Option Addr} {c n : Nat} {a : Nat → Nat} (h : Dg w p c n a) {k : Nat} (hk : k ≤ n) : Dg w p c k a :=
  ⟨by have := h.cap; omega, fun j hj => h.lt j (by omega), by
    rcases h.at' with h1 | ⟨g, o, e, hg, hc⟩
    · exact .inl (by omega)
    · exact .inr ⟨g, o, e, hg, fun j hj => hc j (by omega)⟩⟩
theorem Dg.head {w : World} {p : Option Addr} {c n : Nat} {a : Nat → Nat} (h : Dg w p c n a) (hn : 0 < n) : ∃ g o, p = some ⟨g, o, none⟩ ∧ g < w.heap.size ∧ ∀ j, j < n → w.cell? ⟨g, o + j, none⟩ = some (.int .u32 (a j)) :=
  h.at'.resolve_left (by omega)
/-- Normal form: the digits of the value. -/
theorem Dg.norm {w : World} {p : Option Addr} {c n : Nat} {a : Nat → Nat} (h : Dg w p c n a) (ht : n = 0 ∨ a (n - 1) ≠ 0) : nd (vf a n) = n ∧ Nm w p c (vf a n) := by
  have h1 := nd_vf h.lt ht
  exact ⟨h1, by unfold Nm; rw [h1]; exact h.congr (dg_vf h.lt)⟩
theorem Nm.keep {w w' : World} {p : Option Addr} {c v : Nat} (h : Nm w p c v) (hb : Below w.heap.size w w') : Nm w' p c v := Dg.keep h hb
theorem Nm.nil (w : World) : Nm w none 0 0 := ⟨Nat.le_refl _, fun j hj => absurd hj (by simp [nd_zero]), .inl nd_zero⟩
/-- A row of digits of one's own. -/
def Row (w : World) (g n : Nat) (a : Nat → Nat) : Prop := w.rowIs g 187 n (fun i => .int .u32 (a i)) ∧ ∀ j, j < n → a j < 4294967296
theorem Row.dg {w : World} {g n : Nat} {a : Nat → Nat} (h : Row w g n a) (c : Nat) (hc : n ≤ c) : Dg w (some ⟨g, 0, none⟩) c n a :=
  ⟨hc, h.2, .inr ⟨g, 0, rfl, h.1.lt, fun j hj => by rw [Nat.zero_add]; exact h.1.cell hj⟩⟩
theorem Row.set {w : World} {g n : Nat} {a : Nat → Nat} (h : Row w g n a) (k d : Nat) (hd : d < 4294967296) : Row (w.setCell ⟨g, k, none⟩ (.int .u32 d)) g n (upd a k d) :=
  ⟨(h.1.set k _).congr (fun i _ => by unfold upd; split <;> rfl), fun j hj => by unfold upd; split; exact hd; exact h.2 j hj⟩
theorem Row.made (w : World) (n : Nat) : Row (w.alloc (.cells (madeCells #[.int .u32 0] n) 187)) w.heap.size n (fun _ => 0) :=
  ⟨World.rowIs_made w _ n _, fun _ _ => (by decide : (0 : Nat) < 4294967296)⟩
theorem Row.below {B : Nat} {w w' : World} {g n : Nat} {a : Nat → Nat} (h : Row w g n a) (hb : Below B w w') (hg : g < B) : Row w' g n a := ⟨h.1.of_block (hb.block g hg), h.2⟩
theorem Row.congr {w : World} {g n : Nat} {a b : Nat → Nat} (h : Row w g n a) (e : ∀ j, j < n → a j = b j) : Row w g n b :=
  ⟨h.1.congr (fun i hi => by rw [e i hi]), fun j hj => by rw [← e j hj]; exact h.2 j hj⟩
theorem Row.alloc (w : World) (cs : Array Value) (n : Nat) (a : Nat → Nat) (hn : cs.size = n) (h : ∀ i, i < n → cs[i]? = some (.int .u32 (a i))) (hl : ∀ i, i < n → a i < 4294967296) : Row (w.alloc (.cells cs 187)) w.heap.size n a := by
  subst hn
  exact ⟨World.rowIs_alloc w cs _ _ h, hl⟩
theorem vf_cmp {a b : Nat → Nat} {n i : Nat} (hi : i < n) (ha : ∀ j, j < n → a j < 4294967296) (h : ∀ j, i < j → j < n → a j = b j) (hlt : a i < b i) : vf a n < vf b n := by
  obtain ⟨k, rfl⟩ : ∃ k, n = (i + 1) + k := ⟨n - (i + 1), by omega⟩
  rw [vf_split, vf_split b, vf_congr (a := shf a (i + 1)) (b := shf b (i + 1)) (n := k) (fun j hj => h (i + 1 + j) (by omega) (by omega)), vf, vf]
  have h1 := vf_lt (a := a) (n := i) (fun j hj => ha j (by omega))
  have h2 := Nat.mul_le_mul_left (4294967296 ^ i) (show a i + 1 ≤ b i from hlt)
  rw [Nat.mul_add, Nat.mul_one] at h2
  omega
theorem nd_cmp {u v : Nat} (h : nd u < nd v) : u < v := by
  rcases Nat.lt_or_ge u v with h1 | h1
  · exact h1
  · have := nd_mono h1; omega
theorem or64 (y x : Nat) (hy : y < 4294967296) (hx : x < 4294967296) : bits .or .u64 ((y : Int) * 4294967296) (x : Int) = ((x + 4294967296 * y : Nat) : Int) := by
  rw [show (y : Int) * 4294967296 = ((2 ^ 32 * y : Nat) : Int) from by omega, bits_or_u64_nat _ _ (by omega) (by omega), ← Nat.two_pow_add_eq_or_of_lt (show x < 2 ^ 32 from hx)]
  omega
/-- A slice of k digits of value t is returned. -/
def RetD (w' : World) (e : Ending) (k t : Nat) : Prop := ∃ p c r, e = .returned (.slice p k c) ∧ Dg w' p c k r ∧ vf r k = t
/-- .. without leading zeros. -/
def RetN (w' : World) (e : Ending) (v : Nat) : Prop := ∃ p c, e = .returned (.slice p (nd v) c) ∧ Nm w' p c v
theorem u32Info : (Tryz.prog.info? 187).map (fun i => (i.zero, i.size, i.bytes)) = some (some (.int .u32 0), 1, 4) := by kernel_rfl
theorem make32 (n : Nat) (h : n ≤ 70368744177664) (w : World) :
    (Instr.makeSlice 31 (.int .i64 (n : Int)) (.int .i64 (n : Int))).run Tryz.prog w = .ok (.slice (some ⟨w.heap.size, 0, none⟩) n n) (w.alloc (.cells (madeCells #[.int .u32 0] n) 187)) :=
  run_make_row' 31 187 (.int .u32 0) 4 Tryz.underlying31 u32Info rfl .i64 .i64 n (by omega) (by omega) w
end Go.Proofs.YthikonjlgljikaaGreatDoor
namespace Go.Proofs.YthikonjlgljikaaGreatDoor

theorem over_num {n d : Int} (hd : 0 < d) : (Rat.divInt n d).num = n / (Int.gcd n d : Nat) := by
  rw [Rat.num_divInt, Int.sign_eq_one_of_pos hd, Int.one_mul, Int.gcd_comm]
theorem over_den {n d : Int} (hd : 0 < d) : ((Rat.divInt n d).den : Int) = d / (Int.gcd n d : Nat) := by
  rw [Rat.den_divInt, if_neg (by omega), Int.gcd_comm, Int.natCast_ediv, Int.natAbs_of_nonneg (by omega)]
theorem over_neg (n d : Int) : Rat.divInt (-n) (-d) = Rat.divInt n d := Rat.neg_divInt_neg n d
theorem over_one (n : Int) : (Rat.divInt n 1).num = n ∧ (Rat.divInt n 1).den = 1 := by
  constructor
  · rw [over_num (by decide)]; simp
  · have := over_den (n := n) (d := 1) (by decide)
    simp at this; omega
theorem over_zero (d : Int) : Rat.divInt 0 d = 0 := Rat.zero_divInt d
theorem rat_self (q : Rat) : Rat.divInt q.num q.den = q := Rat.num_divInt_den q
theorem rat_add (a b : Rat) : a + b = Rat.divInt (a.num * b.den + b.num * a.den) (a.den * b.den) := by
  rw [Rat.add_def', ← Rat.divInt_ofNat, Int.natCast_mul]
theorem rat_mul (a b : Rat) : a * b = Rat.divInt (a.num * b.num) (a.den * b.den) := by
  rw [Rat.mul_def', ← Rat.divInt_ofNat, Int.natCast_mul]
theorem rat_add_ints (m n : Int) : Rat.divInt m 1 + Rat.divInt n 1 = Rat.divInt (m + n) 1 := by
  rw [Rat.divInt_add_divInt m n (by decide) (by decide)]; simp
theorem num_le (n d : Int) : (Rat.divInt n d).num.natAbs ≤ n.natAbs := by
  rw [Rat.num_divInt]
  refine Nat.le_trans (Int.natAbs_ediv_le_natAbs _ _) ?_
  rw [Int.natAbs_mul]
  have : d.sign.natAbs ≤ 1 := by
    rcases Int.lt_trichotomy d 0 with h | h | h
    · rw [Int.sign_eq_neg_one_of_neg h]; decide
    · rw [h]; decide
    · rw [Int.sign_eq_one_of_pos h]; decide
  have := Nat.mul_le_mul_right n.natAbs this
  omega
theorem den_le {n d : Int} (h : d ≠ 0) : (Rat.divInt n d).den ≤ d.natAbs := by
  rw [Rat.den_divInt, if_neg h]
  exact Nat.div_le_self _ _
/-- The greater number of digits of numerator and denominator. -/
def hq (q : Rat) : Nat := max (nd q.num.natAbs) (nd q.den)
theorem hq_num (q : Rat) : nd q.num.natAbs ≤ hq q := Nat.le_max_left _ _
theorem hq_den (q : Rat) : nd q.den ≤ hq q := Nat.le_max_right _ _
theorem hq_over {n d : Int} {K : Nat} (h : d ≠ 0) (hn : nd n.natAbs ≤ K) (hd : nd d.natAbs ≤ K) : hq (Rat.divInt n d) ≤ K :=
  Nat.max_le.2 ⟨Nat.le_trans (nd_mono (num_le n d)) hn, Nat.le_trans (nd_mono (den_le h)) hd⟩
theorem den_ne (q : Rat) : (q.den : Int) ≠ 0 := by have := q.den_nz; omega
theorem hq_mul (a b : Rat) : hq (a * b) ≤ hq a + hq b := by
  rw [rat_mul]
  refine hq_over (Int.mul_ne_zero (den_ne a) (den_ne b)) ?_ ?_
  · rw [Int.natAbs_mul]
    have := nd_mul a.num.natAbs b.num.natAbs
    have := hq_num a; have := hq_num b
    omega
  · rw [Int.natAbs_mul, Int.natAbs_natCast, Int.natAbs_natCast]
    have := nd_mul a.den b.den
    have := hq_den a; have := hq_den b
    omega
theorem nd_add_int (a b : Int) {K : Nat} (ha : nd a.natAbs ≤ K) (hb : nd b.natAbs ≤ K) : nd (a + b).natAbs ≤ K + 1 := by
  have h1 := nd_mono (Int.natAbs_add_le a b)
  have h2 := nd_add a.natAbs b.natAbs
  omega
theorem hq_add (a b : Rat) : hq (a + b) ≤ hq a + hq b + 1 := by
  rw [rat_add]
  have a1 := hq_num a; have b1 := hq_num b; have a2 := hq_den a; have b2 := hq_den b
  refine hq_over (Int.mul_ne_zero (den_ne a) (den_ne b)) ?_ ?_
  · refine nd_add_int _ _ ?_ ?_
    · rw [Int.natAbs_mul, Int.natAbs_natCast]; have := nd_mul a.num.natAbs b.den; omega
    · rw [Int.natAbs_mul, Int.natAbs_natCast]; have := nd_mul b.num.natAbs a.den; omega
  · rw [Int.natAbs_mul, Int.natAbs_natCast, Int.natAbs_natCast]
    have := nd_mul a.den b.den
    omega
end Go.Proofs.YthikonjlgljikaaGreatDoor
namespace Go.Proofs.YthikonjlgljikaaGreatDoor

/-- The polynomial p times a X + b Y; index j is the exponent of X. -/
def lin (a b : Int) (p : Nat → Int) : Nat → Int := fun j => (if 0 < j then a * p (j - 1) else 0) + b * p j
/-- The product of the first k factors of (aX + bY)^i (cX + dY)^(..). -/
def mv (i : Nat) (a b c d : Int) : Nat → Nat → Int
  | 0 => fun j => if j = 0 then 1 else 0
  | k + 1 => if k < i then lin a b (mv i a b c d k) else lin c d (mv i a b c d k)
theorem mv_zero (i : Nat) (a b c d : Int) (k j : Nat) (h : k < j) : mv i a b c d k j = 0 := by
  induction k generalizing j with
  | zero => show (if j = 0 then (1 : Int) else 0) = 0; rw [if_neg (by omega)]
  | succ k ih =>
    rw [mv]
    split <;> (unfold lin; rw [ih j (by omega), ih (j - 1) (by omega)]; simp)
theorem nd_one' : nd 1 = 1 := by
  have h1 := nd_pos.2 (show (1 : Nat) ≠ 0 by decide)
  have h2 := (nd_le (v := 1) (k := 1)).2 (by decide)
  omega
theorem lin_size (a b : Int) (p : Nat → Int) (K : Nat) (ha : nd a.natAbs ≤ 2) (hb : nd b.natAbs ≤ 2) (hp : ∀ j, nd (p j).natAbs ≤ K) (j : Nat) : nd (lin a b p j).natAbs ≤ K + 3 := by
  unfold lin
  refine Nat.le_trans (nd_add_int _ _ (K := K + 2) ?_ ?_) (by omega)
  · split
    · rw [Int.natAbs_mul]; have := nd_mul a.natAbs (p (j - 1)).natAbs; have := hp (j - 1); omega
    · rw [show (0 : Int).natAbs = 0 from rfl, nd_zero]; omega
  · rw [Int.natAbs_mul]; have := nd_mul b.natAbs (p j).natAbs; have := hp j; omega
theorem mv_size (i : Nat) (a b c d : Int) (ha : nd a.natAbs ≤ 2) (hb : nd b.natAbs ≤ 2) (hc : nd c.natAbs ≤ 2) (hd : nd d.natAbs ≤ 2) (k j : Nat) : nd (mv i a b c d k j).natAbs ≤ 1 + 3 * k := by
  induction k generalizing j with
  | zero =>
    show nd (if j = 0 then (1 : Int) else 0).natAbs ≤ 1
    split
    · exact Nat.le_of_eq nd_one'
    · rw [show (0 : Int).natAbs = 0 from rfl, nd_zero]; omega
  | succ k ih =>
    rw [mv]
    split
    · exact lin_size a b _ _ ha hb ih j
    · exact lin_size c d _ _ hc hd ih j
/-- The sum of the first n values. -/
def sumQ (f : Nat → Rat) : Nat → Rat
  | 0 => 0
  | n + 1 => sumQ f n + f n
/-- Coefficient j of P(aX + bY, cX + dY), P of degree w with the coefficients q; the first n terms of it. -/
def subst (q : Nat → Rat) (w : Nat) (a b c d : Int) (n j : Nat) : Rat := sumQ (fun i => q i * (mv i a b c d w j : Int)) n
theorem hq_int (z : Int) : hq (z : Rat) = max (nd z.natAbs) 1 := by
  unfold hq; rw [Rat.num_intCast, Rat.den_intCast, nd_one']
theorem sumQ_size (f : Nat → Rat) (K : Nat) (n : Nat) (h : ∀ i, i < n → hq (f i) ≤ K) : hq (sumQ f n) ≤ 1 + n * (K + 1) := by
  induction n with
  | zero => show hq (0 : Rat) ≤ _; simp [hq, nd_zero, nd_one']
  | succ n ih =>
    rw [sumQ, Nat.succ_mul]
    have h1 := ih (fun i hi => h i (by omega))
    have h2 := hq_add (sumQ f n) (f n)
    have h3 := h n (by omega)
    omega
/-- One term more or less at a polynomial with a factor in front. -/
theorem lin_scaled (q : Rat) (a b : Int) (p : Nat → Int) (j : Nat) : q * (lin a b p j : Int) = (if 0 < j then (a : Rat) * (q * (p (j - 1) : Int)) else 0) + (b : Rat) * (q * (p j : Int)) := by
  unfold lin
  split <;> simp <;> grind
end Go.Proofs.YthikonjlgljikaaGreatDoor
