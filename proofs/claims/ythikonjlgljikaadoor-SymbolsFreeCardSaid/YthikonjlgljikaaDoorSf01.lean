/- Small lemmas on numbers, endings and worlds that all walks of this seat share. Digits to base 2^32: values, normal forms, lengths. No program in sight. Digits to base 2^32 as functions of the index: values, updates, splits; slices of digits in memory. -/
import Derived.Test.YthikonjlgljikaaDoorChecked
import Derived.WalkKit
import Derived.WalkLawsBesides
import Derived.WalkSpells
import Derived.WalkSmall
import Derived.Handy
import Derived.Deep.QuietTactic
import Derived.BigQuiet
import Derived.BigGuardPart
import Derived.Deep.RegionWith
import Derived.Deep.RegionHeld3
import Derived.Deep.RegionLaw
import Derived.Deep.LoopGhost
import Derived.Deep.DeepCutAuto
import Derived.Deep.DeepMust
import Derived.StillTailTactics
import Derived.RegionTactic
import Derived.ChangeAlike
import Derived.Laws.CopyOwn
import Derived.Lib.Hide
import Derived.Maps.AppendAt
import Derived.Deep.OwnRows
import Derived.Laws.Bits64b
namespace Go.Proofs.YthikonjlgljikaaDoor
open Go.RowKit

theorem ret_i {k : IntKind} {a b : Int} (h : a = b) : Ending.returned (.int k a) = .returned (.int k b) := by rw [h]
theorem ret_b {a b : Bool} (h : a = b) : Ending.returned (.bool a) = .returned (.bool b) := by rw [h]
theorem val_i {k : IntKind} {a b : Int} (h : a = b) : Value.int k a = .int k b := by rw [h]
theorem val_b {a b : Bool} (h : a = b) : Value.bool a = .bool b := by rw [h]
theorem dr2 (w : World) (a b : Nat) : (w.drewN a).drewN b = w.drewN (a + b) := World.drewN_drewN _ _ _

theorem gcd_step (x y : Int) (h : y ≠ 0) : Int.gcd y (x.tmod y) = Int.gcd x y ∧ (x.tmod y).natAbs < y.natAbs := by
  constructor
  · rw [Int.gcd_comm x y]
    simp only [Int.gcd, Int.natAbs_tmod]
    rw [Nat.gcd_comm, ← Nat.gcd_rec]
  · rw [Int.natAbs_tmod]; exact Nat.mod_lt _ (by omega)
theorem gcd_zero (x : Int) : ((Int.gcd x 0 : Nat) : Int) = if x < 0 then -x else x := by
  rw [Int.gcd_zero_right]; split <;> omega
theorem quiet_below {w w' : World} (h : ∃ n, w' = w.drewN n) : Below w.heap.size w w' := by
  obtain ⟨n, rfl⟩ := h
  exact ⟨rfl, rfl, rfl, Nat.le_refl _, fun _ _ => rfl⟩
theorem below_drewN' {B : Nat} {a w : World} (h : Below B a w) (n : Nat) : Below B a (w.drewN n) := ⟨h.os, h.tape, h.output, h.size, h.block⟩

/-- Block g is just the cells cs of element type t, none frozen. -/
def Blk (w : World) (g : Nat) (t : TypeId) (cs : Array Value) : Prop := w.heap[g]? = some (.cells cs t (0, 0))
section
variable {w w' : World} {g : Nat} {t : TypeId} {cs : Array Value}
theorem Blk.lt (h : Blk w g t cs) : g < w.heap.size := by
  rcases Nat.lt_or_ge g w.heap.size with hlt | hge
  · exact hlt
  · unfold Blk at h; rw [Array.getElem?_eq_none hge] at h; cases h
theorem Blk.cell_ (h : Blk w g t cs) (i : Nat) : w.cell? ⟨g, i, none⟩ = cs[i]? := cell_of_row w g i cs t (0, 0) h
theorem Blk.at_ (h : Blk w g t cs) (i : Nat) {v : Value} (hv : cs[i]? = some v) : w.cell? ⟨g, i, none⟩ = some v := (h.cell_ i).trans hv
theorem Blk.free_ (h : Blk w g t cs) (i : Nat) : w.frozen? ⟨g, i, none⟩ = false := by
  unfold Blk at h
  simp [World.frozen?, h]
theorem Blk.new (w : World) (t : TypeId) (cs : Array Value) : Blk (w.alloc (.cells cs t)) w.heap.size t cs := heap_alloc_new w _
theorem Blk.drew_ (h : Blk w g t cs) : Blk w.drew g t cs := h
theorem Blk.alloc_ (h : Blk w g t cs) (o : Obj) : Blk (w.alloc o) g t cs := (Below.heap_alloc w o g h.lt).trans h
theorem Blk.set_ (h : Blk w g t cs) (i : Nat) (u : Value) : Blk (w.setCell ⟨g, i, none⟩ u) g t (cs.setIfInBounds i u) := by
  unfold Blk at h ⊢
  simp [World.setCell, Array.getElem?_modify, h]
theorem Blk.far_ (h : Blk w g t cs) {p : Addr} (hp : g ≠ p.block) (u : Value) : Blk (w.setCell p u) g t cs := (Below.heap_setCell w p u g hp).trans h
theorem Blk.below_ {B : Nat} (h : Blk w g t cs) (hb : Below B w w') (hg : g < B) : Blk w' g t cs := (hb.block g hg).trans h
theorem Blk.grown_ {row : Option Nat} (h : Blk w g t cs) (hb : w.grownBy w' row) (hg : some g ≠ row) : Blk w' g t cs := (hb.block g h.lt hg).trans h
end

/-! Rows of the call's own -/
theorem grown_of_alloc {W w' : World} {o : Obj} {row : Option Nat} (h : (W.alloc o).grownBy w' row) : W.grownBy w' row :=
  ⟨h.os, h.tape, h.output, Nat.le_trans (by simp) h.size, fun i hi hne => (h.block i (by simp; omega) hne).trans (Below.heap_alloc W o i hi)⟩
theorem wpl_app1 {P : Program} {W : World} {ops : Array Oper} {rest : List Oper} {o : Oper} {a : Act} {Q : Exit → Act → World → Prop} (hgd : o.guard = none) (s x : Operand) (t E : TypeId)
    (ho : o.op = .call { callee := .builtin .append, args := #[s, x], argTypes := #[t, t] }) {z : Value} {sz bytes : Nat} (hU : P.underlying t = some (.slice E))
    (hinfo : (P.info? E).map (fun i => (i.zero, i.size, i.bytes)) = some (some z, sz, bytes)) (hzs : z.cells.size = sz) (hsz : 0 < sz) (B n : Nat) (v : Value) (xs news : List Value)
    (hs : a.eval s = v) (hown : W.ownsRow B E sz v n xs) (hx : a.eval x = .slice (some ⟨W.heap.size, 0, none⟩) 1 1) (hn : news.length = sz) (h1 : ∀ u ∈ news, u.oneCell' = true)
    (hb : (n + 1) * bytes ≤ 140737488355328) (hm : n + 1 ≤ 9223372036854775807) (hB : B ≤ W.heap.size)
    (h : ∀ v' w', w'.ownsRow B E sz v' (n + 1) (xs ++ news) → W.grownBy w' v.ownBlock → (v'.ownBlock = v.ownBlock ∨ v'.ownBlock = some (W.heap.size + 1)) → wpList P ops Q rest (a.put o.dst v') w') :
    wpList P ops Q (o :: rest) a (W.alloc (.cells news.toArray E)) := by
  obtain ⟨i0, hi, hz0, hz1, hz2⟩ := info_parts hinfo
  have hcell : ∀ (j : Nat) (u : Value), news[j]? = some u → (W.alloc (.cells news.toArray E)).cell? ((⟨W.heap.size, 0, none⟩ : Addr).add j) = some u := by
    intro j u hu
    have hc := (Blk.new W E news.toArray).cell_ j
    have e : (⟨W.heap.size, 0, none⟩ : Addr).add j = ⟨W.heap.size, j, none⟩ := by
      unfold Addr.add; split
      · rename_i h0; rw [h0]
      · simp
    rw [e, hc]
    simpa using hu
  refine wpList_append_own_at _ hgd s x t ho B E i0 z sz bytes hU hi hz0 hz1 hz2 hzs hsz v n xs hs (hown.alloc _) ⟨W.heap.size, 0, none⟩ 1 1 news hx (by omega) hcell h1 hm hb (by simp; omega) ?_
  intro v' w' g1 g2 _ g3
  refine h v' w' g1 (grown_of_alloc g2) ?_
  rcases g3 with g3 | g3
  · exact .inl g3
  · exact .inr (by rw [g3]; simp)
theorem own_block {w : World} {B E sz n : Nat} {v : Value} {xs : List Value} (h : w.ownsRow B E sz v n xs) : v.ownBlock = none ∨ ∃ g cs, v.ownBlock = some g ∧ B ≤ g ∧ Blk w g E cs := by
  rcases h.2 with ⟨rfl, _⟩ | ⟨g, cap, cur, rfl, hB, hh, _⟩
  · exact .inl rfl
  · exact .inr ⟨g, cur, rfl, hB, hh⟩
theorem own_below {w W w' : World} {B B' E sz n : Nat} {v : Value} {xs : List Value} (hb : Below B w W) (h : W.ownsRow B' E sz v n xs) (hg : W.grownBy w' v.ownBlock) (h1 : B ≤ B') (h2 : B ≤ W.heap.size) : Below B w w' :=
  hb.grown hg h2 (fun k hk => Nat.le_trans h1 (h.lt k hk).1)
/-- A row survives what turns nothing that was there. -/
theorem own_keep {W w' : World} {B E sz n : Nat} {v : Value} {xs : List Value} (h : W.ownsRow B E sz v n xs) (hb : Below W.heap.size W w') : w'.ownsRow B E sz v n xs :=
  h.kept (row := none) ⟨hb.os, hb.tape, hb.output, hb.size, fun k hk _ => hb.block k hk⟩ (by
    cases hv : v.ownBlock with
    | none => exact .inl rfl
    | some g => exact .inr (by simp))
/-- Element k's cells of a row that is read. -/
theorem own_read {w : World} {B E sz g n cap : Nat} {xs : List Value} (h : w.ownsRow B E sz (.slice (some ⟨g, 0, none⟩) n cap) n xs) {j : Nat} {u : Value} (hj : xs[j]? = some u) : w.cell? ⟨g, j, none⟩ = some u := by
  have hl : xs.length = n * sz := h.1
  have hlt : j < n * sz := by
    rw [← hl]
    rcases Nat.lt_or_ge j xs.length with hlt | hge
    · exact hlt
    · rw [List.getElem?_eq_none hge] at hj; cases hj
  rw [h.cellAt j hlt]; exact hj
/-- The shape of a row: nil and empty, or at a block's head. -/
theorem own_shape {w : World} {B E sz n : Nat} {v : Value} {xs : List Value} (h : w.ownsRow B E sz v n xs) : (v = .slice none 0 0 ∧ n = 0 ∧ xs = []) ∨ ∃ g cap, v = .slice (some ⟨g, 0, none⟩) n cap ∧ B ≤ g ∧ g < w.heap.size ∧ n ≤ cap := by
  rcases h.2 with ⟨rfl, rfl⟩ | ⟨g, cap, cur, rfl, hB, hh, hn, _⟩
  · exact .inl ⟨rfl, rfl, List.eq_nil_of_length_eq_zero (by simpa using h.1)⟩
  · exact .inr ⟨g, cap, rfl, hB, Blk.lt (t := E) hh, hn⟩
end Go.Proofs.YthikonjlgljikaaDoor
namespace Go.Proofs.YthikonjlgljikaaDoor.Dig

/-- The value of a list of digits, least significant first. -/
def val : List Nat → Nat
  | [] => 0
  | d :: l => d + 4294967296 * val l
def digF : Nat → Nat → List Nat
  | 0, _ => []
  | f+1, n => if n = 0 then [] else n % 4294967296 :: digF f (n / 4294967296)
/-- The digits of a number, without leading zeros. -/
def dig (n : Nat) : List Nat := digF n n

theorem digF_eq : ∀ (f g n : Nat), n ≤ f → n ≤ g → digF f n = digF g n
  | 0, 0, _, _, _ => rfl
  | 0, g+1, n, h, _ => by
    have : n = 0 := by omega
    subst this; simp [digF]
  | f+1, 0, n, _, h => by
    have : n = 0 := by omega
    subst this; simp [digF]
  | f+1, g+1, n, h, h' => by
    rw [digF, digF]
    split
    · rfl
    · rename_i h0
      have : n / 4294967296 < n := Nat.div_lt_self (by omega) (by omega)
      rw [digF_eq f g _ (by omega) (by omega)]
theorem dig_zero : dig 0 = [] := rfl
theorem dig_pos {n : Nat} (h : n ≠ 0) : dig n = n % 4294967296 :: dig (n / 4294967296) := by
  obtain ⟨m, rfl⟩ : ∃ m, n = m + 1 := ⟨n - 1, by omega⟩
  unfold dig
  rw [digF, if_neg h]
  have : (m + 1) / 4294967296 < m + 1 := Nat.div_lt_self (by omega) (by omega)
  rw [digF_eq m ((m + 1) / 4294967296) _ (by omega) (Nat.le_refl _)]
theorem val_append (a b : List Nat) : val (a ++ b) = val a + 4294967296 ^ a.length * val b := by
  induction a with
  | nil => simp [val]
  | cons d a ih => rw [List.cons_append, val, val, ih, List.length_cons, Nat.pow_succ, Nat.mul_add]; rw [Nat.mul_comm (4294967296 ^ a.length) 4294967296, Nat.mul_assoc]; omega
theorem pow_pos (k : Nat) : 0 < 4294967296 ^ k := Nat.pow_pos (by omega)
theorem dig_lt {n k : Nat} : (dig n).length ≤ k ↔ n < 4294967296 ^ k := by
  induction k generalizing n with
  | zero =>
    by_cases h : n = 0
    · subst h; simp [dig_zero]
    · rw [dig_pos h]; simp; omega
  | succ k ih =>
    by_cases h : n = 0
    · subst h; have := pow_pos (k + 1); simp [dig_zero]; omega
    · rw [dig_pos h, List.length_cons, Nat.pow_succ, Nat.add_le_add_iff_right, ih, Nat.div_lt_iff_lt_mul (by omega)]
theorem dig_length_pos {n : Nat} : 0 < (dig n).length ↔ n ≠ 0 := by
  by_cases h : n = 0
  · subst h; simp [dig_zero]
  · rw [dig_pos h]; simp; exact h
theorem dig_top {n : Nat} (h : n ≠ 0) : 4294967296 ^ ((dig n).length - 1) ≤ n := by
  rcases Nat.lt_or_ge n (4294967296 ^ ((dig n).length - 1)) with hlt | hge
  · have := dig_lt.2 hlt
    have := dig_length_pos.2 h
    omega
  · exact hge
theorem dig_mono {a b : Nat} (h : a ≤ b) : (dig a).length ≤ (dig b).length :=
  dig_lt.2 (Nat.lt_of_le_of_lt h (dig_lt.1 (Nat.le_refl _)))
theorem dig_add_len (a b : Nat) : (dig (a + b)).length ≤ max (dig a).length (dig b).length + 1 := by
  rw [dig_lt, Nat.pow_succ]
  have h1 := dig_lt.1 (show (dig a).length ≤ max (dig a).length (dig b).length from by omega)
  have h2 := dig_lt.1 (show (dig b).length ≤ max (dig a).length (dig b).length from by omega)
  omega
theorem dig_mul_len (a b : Nat) : (dig (a * b)).length ≤ (dig a).length + (dig b).length := by
  rw [dig_lt, Nat.pow_add]
  exact Nat.mul_lt_mul'' (dig_lt.1 (Nat.le_refl _)) (dig_lt.1 (Nat.le_refl _))
end Go.Proofs.YthikonjlgljikaaDoor.Dig
namespace Go.Proofs.YthikonjlgljikaaDoor
open Go.RowKit

/-- The value of the first n digits. -/
def vf (a : Nat → Nat) : Nat → Nat
  | 0 => 0
  | n + 1 => vf a n + 4294967296 ^ n * a n
def shf (a : Nat → Nat) (m : Nat) : Nat → Nat := fun i => a (m + i)
def upd (a : Nat → Nat) (k d : Nat) : Nat → Nat := fun j => if j = k then d else a j
theorem vf_congr {a b : Nat → Nat} {n : Nat} (h : ∀ i, i < n → a i = b i) : vf a n = vf b n := by
  induction n with
  | zero => rfl
  | succ n ih => rw [vf, vf, ih (fun i hi => h i (by omega)), h n (by omega)]
theorem pow_succ' (n : Nat) : 4294967296 ^ (n + 1) = 4294967296 * 4294967296 ^ n := by rw [Nat.pow_succ, Nat.mul_comm]
theorem vf_lt {a : Nat → Nat} {n : Nat} (h : ∀ i, i < n → a i < 4294967296) : vf a n < 4294967296 ^ n := by
  induction n with
  | zero => simp [vf]
  | succ n ih =>
    rw [vf, pow_succ']
    have h1 := ih (fun i hi => h i (by omega))
    have h2 := Nat.mul_le_mul_left (4294967296 ^ n) (show a n ≤ 4294967295 from by have := h n (by omega); omega)
    rw [Nat.mul_comm _ 4294967295] at h2
    generalize 4294967296 ^ n * a n = y at *
    generalize 4294967296 ^ n = x at *
    omega
theorem vf_head (a : Nat → Nat) (n : Nat) : vf a (n + 1) = a 0 + 4294967296 * vf (shf a 1) n := by
  induction n with
  | zero => simp [vf]
  | succ n ih =>
    rw [vf, ih, vf, pow_succ', Nat.mul_assoc, Nat.mul_add, show shf a 1 n = a (n + 1) from by simp [shf, Nat.add_comm]]
    omega
theorem vf_split (a : Nat → Nat) (m n : Nat) : vf a (m + n) = vf a m + 4294967296 ^ m * vf (shf a m) n := by
  induction n with
  | zero => simp [vf]
  | succ n ih =>
    rw [← Nat.add_assoc, vf, ih, vf, Nat.pow_add, Nat.mul_add, Nat.mul_assoc, show shf a m n = a (m + n) from rfl]
    omega
theorem vf_zero {a : Nat → Nat} {n : Nat} (h : ∀ i, i < n → a i = 0) : vf a n = 0 := by
  induction n with
  | zero => rfl
  | succ n ih => rw [vf, ih (fun i hi => h i (by omega)), h n (by omega)]; simp
theorem vf_tail {a : Nat → Nat} {m n : Nat} (hm : m ≤ n) (h : ∀ i, m ≤ i → i < n → a i = 0) : vf a n = vf a m := by
  obtain ⟨k, rfl⟩ : ∃ k, n = m + k := ⟨n - m, by omega⟩
  rw [vf_split, vf_zero (a := shf a m) (n := k) (fun i hi => h (m + i) (by omega) (by omega))]
  simp
theorem vf_upd_ge {a : Nat → Nat} {k d n : Nat} (h : n ≤ k) : vf (upd a k d) n = vf a n :=
  vf_congr fun i hi => by unfold upd; rw [if_neg (by omega)]
theorem vf_upd {a : Nat → Nat} {k d n : Nat} (h : k < n) : vf (upd a k d) n + 4294967296 ^ k * a k = vf a n + 4294967296 ^ k * d := by
  induction n with
  | zero => omega
  | succ n ih =>
    rw [vf, vf]
    by_cases hk : k = n
    · subst hk
      rw [vf_upd_ge (Nat.le_refl _), show upd a k d k = d from by simp [upd]]
      omega
    · have h1 := ih (by omega)
      rw [show upd a k d n = a n from by unfold upd; rw [if_neg (by omega)]]
      omega
theorem vf_inj {a b : Nat → Nat} {n : Nat} (ha : ∀ i, i < n → a i < 4294967296) (hb : ∀ i, i < n → b i < 4294967296) (h : vf a n = vf b n) : ∀ i, i < n → a i = b i := by
  induction n generalizing a b with
  | zero => intro i hi; omega
  | succ n ih =>
    rw [vf_head, vf_head] at h
    have h0 := ha 0 (by omega)
    have h1 := hb 0 (by omega)
    have h2 := ih (a := shf a 1) (b := shf b 1) (fun i hi => ha (1 + i) (by omega)) (fun i hi => hb (1 + i) (by omega)) (by omega)
    intro i hi
    cases i with
    | zero => omega
    | succ i => have := h2 i (by omega); unfold shf at this; rwa [Nat.add_comm] at this
/-- The number of digits. -/
def nd (v : Nat) : Nat := (Dig.dig v).length
def dg (v : Nat) (i : Nat) : Nat := v / 4294967296 ^ i % 4294967296
theorem dg_lt (v i : Nat) : dg v i < 4294967296 := Nat.mod_lt _ (by omega)
theorem nd_le {v k : Nat} : nd v ≤ k ↔ v < 4294967296 ^ k := Dig.dig_lt
theorem nd_mono {a b : Nat} (h : a ≤ b) : nd a ≤ nd b := Dig.dig_mono h
theorem nd_add (a b : Nat) : nd (a + b) ≤ max (nd a) (nd b) + 1 := Dig.dig_add_len a b
theorem nd_mul (a b : Nat) : nd (a * b) ≤ nd a + nd b := Dig.dig_mul_len a b
theorem nd_zero : nd 0 = 0 := rfl
theorem nd_pos {v : Nat} : 0 < nd v ↔ v ≠ 0 := Dig.dig_length_pos
theorem nd_top {v : Nat} (h : v ≠ 0) : 4294967296 ^ (nd v - 1) ≤ v := Dig.dig_top h
theorem vf_dg_mod (v n : Nat) : vf (dg v) n = v % 4294967296 ^ n := by
  induction n with
  | zero => simp [vf, Nat.mod_one]
  | succ n ih => rw [vf, ih, Nat.pow_succ, Nat.mod_mul]; rfl
theorem vf_dg {v n : Nat} (h : v < 4294967296 ^ n) : vf (dg v) n = v := by rw [vf_dg_mod, Nat.mod_eq_of_lt h]
theorem vf_nd (v : Nat) : vf (dg v) (nd v) = v := vf_dg (nd_le.1 (Nat.le_refl _))
theorem dg_vf {a : Nat → Nat} {n : Nat} (ha : ∀ i, i < n → a i < 4294967296) : ∀ i, i < n → a i = dg (vf a n) i :=
  vf_inj ha (fun i _ => dg_lt _ i) (vf_dg (vf_lt ha)).symm
theorem nd_vf {a : Nat → Nat} {n : Nat} (ha : ∀ i, i < n → a i < 4294967296) (h : n = 0 ∨ a (n - 1) ≠ 0) : nd (vf a n) = n := by
  have h1 : nd (vf a n) ≤ n := nd_le.2 (vf_lt ha)
  rcases h with rfl | h
  · rfl
  · rcases Nat.lt_or_ge (nd (vf a n)) n with h2 | h2
    · exfalso
      obtain ⟨m, rfl⟩ : ∃ m, n = m + 1 := ⟨n - 1, by omega⟩
      have h3 := nd_le.1 (show nd (vf a (m + 1)) ≤ m from by omega)
      rw [vf] at h3
      simp only [Nat.add_sub_cancel] at h
      have h4 := Nat.mul_le_mul_left (4294967296 ^ m) (show 1 ≤ a m from by omega)
      omega
    · omega
/-- The digits of a slice. -/
structure Dg (w : World) (p : Option Addr) (c n : Nat) (a : Nat → Nat) : Prop where
  cap : n ≤ c
  lt : ∀ j, j < n → a j < 4294967296
  at' : n = 0 ∨ ∃ g o, p = some ⟨g, o, none⟩ ∧ g < w.heap.size ∧ ∀ j, j < n → w.cell? ⟨g, o + j, none⟩ = some (.int .u32 (a j))
/-- .. without leading zeros, of value v. -/
def Nm (w : World) (p : Option Addr) (c v : Nat) : Prop := Dg w p c (nd v) (dg v)
theorem Dg.keep {w w' : World} {p : Option Addr} {c n : Nat} {a : Nat → Nat} (h : Dg w p c n a) (hb : Below w.heap.size w w') : Dg w' p c n a :=
  ⟨h.cap, h.lt, by
    rcases h.at' with h1 | ⟨g, o, e, hg, hc⟩
    · exact .inl h1
    · exact .inr ⟨g, o, e, Nat.lt_of_lt_of_le hg hb.size, fun j hj => (hb.cell (p := ⟨g, o + j, none⟩) hg).trans (hc j hj)⟩⟩
theorem Dg.below {B : Nat} {w w' : World} {g o c n : Nat} {a : Nat → Nat} (h : Dg w (some ⟨g, o, none⟩) c n a) (hb : Below B w w') (hg : g < B) : Dg w' (some ⟨g, o, none⟩) c n a :=
  ⟨h.cap, h.lt, by
    rcases h.at' with h1 | ⟨g', o', e, hg', hc⟩
    · exact .inl h1
    · injection e with e; injection e with e1 e2; subst e1; subst e2
      exact .inr ⟨g, o, rfl, Nat.lt_of_lt_of_le hg' hb.size, fun j hj => (hb.cell (p := ⟨g, o + j, none⟩) hg).trans (hc j hj)⟩⟩
theorem Dg.congr {w : World} {p : Option Addr} {c n : Nat} {a b : Nat → Nat} (h : Dg w p c n a) (e : ∀ j, j < n → a j = b j) : Dg w p c n b :=
  ⟨h.cap, fun j hj => by rw [← e j hj]; exact h.lt j hj, by
    rcases h.at' with h1 | ⟨g, o, e', hg, hc⟩
    · exact .inl h1
    · exact .inr ⟨g, o, e', hg, fun j hj => by rw [← e j hj]; exact hc j hj⟩⟩
theorem Dg.take {w : World} {p : Option Addr} {c n : Nat} {a : Nat → Nat} (h : Dg w p c n a) {k : Nat} (hk : k ≤ n) : Dg w p c k a :=
  ⟨by have := h.cap; omega, fun j hj => h.lt j (by omega), by
    rcases h.at' with h1 | ⟨g, o, e, hg, hc⟩
    · exact .inl (by omega)
    · exact .inr ⟨g, o, e, hg, fun j hj => hc j (by omega)⟩⟩
theorem Dg.head {w : World} {p : Option Addr} {c n : Nat} {a : Nat → Nat} (h : Dg w p c n a) (hn : 0 < n) : ∃ g o, p = some ⟨g, o, none⟩ ∧ g < w.heap.size ∧ ∀ j, j < n → w.cell? ⟨g, o + j, none⟩ = some (.int .u32 (a j)) :=
  h.at'.resolve_left (by omega)
/-- Normal form: the digits of the value. -/
theorem Dg.norm {w : World} {p : Option Addr} {c n : Nat} {a : Nat → Nat} (h : Dg w p c n a) (ht : n = 0 ∨ a (n - 1) ≠ 0) : nd (vf a n) = n ∧ Nm w p c (vf a n) := by
  have h1 := nd_vf h.lt ht
  exact ⟨h1, by unfold Nm; rw [h1]; exact h.congr (dg_vf h.lt)⟩
theorem Nm.keep {w w' : World} {p : Option Addr} {c v : Nat} (h : Nm w p c v) (hb : Below w.heap.size w w') : Nm w' p c v := Dg.keep h hb
theorem Nm.nil (w : World) : Nm w none 0 0 := ⟨Nat.le_refl _, fun j hj => absurd hj (by simp [nd_zero]), .inl nd_zero⟩
/-- A row of digits of one's own. -/
def Row (w : World) (g n : Nat) (a : Nat → Nat) : Prop := w.rowIs g 116 n (fun i => .int .u32 (a i)) ∧ ∀ j, j < n → a j < 4294967296
theorem Row.dg {w : World} {g n : Nat} {a : Nat → Nat} (h : Row w g n a) (c : Nat) (hc : n ≤ c) : Dg w (some ⟨g, 0, none⟩) c n a :=
  ⟨hc, h.2, .inr ⟨g, 0, rfl, h.1.lt, fun j hj => by rw [Nat.zero_add]; exact h.1.cell hj⟩⟩
theorem Row.set {w : World} {g n : Nat} {a : Nat → Nat} (h : Row w g n a) (k d : Nat) (hd : d < 4294967296) : Row (w.setCell ⟨g, k, none⟩ (.int .u32 d)) g n (upd a k d) :=
  ⟨(h.1.set k _).congr (fun i _ => by unfold upd; split <;> rfl), fun j hj => by unfold upd; split; exact hd; exact h.2 j hj⟩
theorem Row.made (w : World) (n : Nat) : Row (w.alloc (.cells (madeCells #[.int .u32 0] n) 116)) w.heap.size n (fun _ => 0) :=
  ⟨World.rowIs_made w _ n _, fun _ _ => (by decide : (0 : Nat) < 4294967296)⟩
theorem Row.below {B : Nat} {w w' : World} {g n : Nat} {a : Nat → Nat} (h : Row w g n a) (hb : Below B w w') (hg : g < B) : Row w' g n a := ⟨h.1.of_block (hb.block g hg), h.2⟩
theorem Row.congr {w : World} {g n : Nat} {a b : Nat → Nat} (h : Row w g n a) (e : ∀ j, j < n → a j = b j) : Row w g n b :=
  ⟨h.1.congr (fun i hi => by rw [e i hi]), fun j hj => by rw [← e j hj]; exact h.2 j hj⟩
theorem Row.alloc (w : World) (cs : Array Value) (n : Nat) (a : Nat → Nat) (hn : cs.size = n) (h : ∀ i, i < n → cs[i]? = some (.int .u32 (a i))) (hl : ∀ i, i < n → a i < 4294967296) : Row (w.alloc (.cells cs 116)) w.heap.size n a := by
  subst hn
  exact ⟨World.rowIs_alloc w cs _ _ h, hl⟩
theorem vf_cmp {a b : Nat → Nat} {n i : Nat} (hi : i < n) (ha : ∀ j, j < n → a j < 4294967296) (h : ∀ j, i < j → j < n → a j = b j) (hlt : a i < b i) : vf a n < vf b n := by
  obtain ⟨k, rfl⟩ : ∃ k, n = (i + 1) + k := ⟨n - (i + 1), by omega⟩
  rw [vf_split, vf_split b, vf_congr (a := shf a (i + 1)) (b := shf b (i + 1)) (n := k) (fun j hj => h (i + 1 + j) (by omega) (by omega)), vf, vf]
  have h1 := vf_lt (a := a) (n := i) (fun j hj => ha j (by omega))
  have h2 := Nat.mul_le_mul_left (4294967296 ^ i) (show a i + 1 ≤ b i from hlt)
  rw [Nat.mul_add, Nat.mul_one] at h2
  omega
theorem nd_cmp {u v : Nat} (h : nd u < nd v) : u < v := by
  rcases Nat.lt_or_ge u v with h1 | h1
  · exact h1
  · have := nd_mono h1; omega
theorem or64 (y x : Nat) (hy : y < 4294967296) (hx : x < 4294967296) : bits .or .u64 ((y : Int) * 4294967296) (x : Int) = ((x + 4294967296 * y : Nat) : Int) := by
  rw [show (y : Int) * 4294967296 = ((2 ^ 32 * y : Nat) : Int) from by omega, bits_or_u64_nat _ _ (by omega) (by omega), ← Nat.two_pow_add_eq_or_of_lt (show x < 2 ^ 32 from hx)]
  omega
/-- A slice of k digits of value t is returned. -/
def RetD (w' : World) (e : Ending) (k t : Nat) : Prop := ∃ p c r, e = .returned (.slice p k c) ∧ Dg w' p c k r ∧ vf r k = t
/-- .. without leading zeros. -/
def RetN (w' : World) (e : Ending) (v : Nat) : Prop := ∃ p c, e = .returned (.slice p (nd v) c) ∧ Nm w' p c v
theorem u32Info : (Tryd.prog.info? 116).map (fun i => (i.zero, i.size, i.bytes)) = some (some (.int .u32 0), 1, 4) := by kernel_rfl
theorem make32 (n : Nat) (h : n ≤ 70368744177664) (w : World) :
    (Instr.makeSlice 48 (.int .i64 (n : Int)) (.int .i64 (n : Int))).run Tryd.prog w = .ok (.slice (some ⟨w.heap.size, 0, none⟩) n n) (w.alloc (.cells (madeCells #[.int .u32 0] n) 116)) :=
  run_make_row' 48 116 (.int .u32 0) 4 Tryd.underlying48 u32Info rfl .i64 .i64 n (by omega) (by omega) w
end Go.Proofs.YthikonjlgljikaaDoor
