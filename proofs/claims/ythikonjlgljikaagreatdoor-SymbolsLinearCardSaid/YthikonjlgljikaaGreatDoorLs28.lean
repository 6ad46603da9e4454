/- Contract of paths.substitute. Contract of halfplaneref40.times. -/
import Derived.Test.YthikonjlgljikaaGreatDoorLs26
namespace Go.Proofs.YthikonjlgljikaaGreatDoor
set_option linter.unusedSimpArgs false
open Go.RowKit

/-! Everything but one block stays -/
theorem but_below {w w' : World} (g : Nat) (h : Below w.heap.size w w') : w.grownBy w' (some g) := ⟨h.os, h.tape, h.output, h.size, fun k hk _ => h.block k hk⟩
theorem but_put (w : World) (g i : Nat) (v : Value) : w.grownBy (w.setCell ⟨g, i, none⟩ v) (some g) :=
  ⟨rfl, rfl, rfl, by simp, fun k hk hne => Below.heap_setCell w ⟨g, i, none⟩ v k (fun e => hne (by rw [e]))⟩
theorem but_put4 (w : World) (g i j k l : Nat) (v0 v1 v2 v3 : Value) : w.grownBy ((((w.setCell ⟨g, i, none⟩ v0).setCell ⟨g, j, none⟩ v1).setCell ⟨g, k, none⟩ v2).setCell ⟨g, l, none⟩ v3) (some g) :=
  (((but_put w g i v0).trans (but_put _ g j v1)).trans (but_put _ g k v2)).trans (but_put _ g l v3)
theorem I32.but {w w' : World} {g : Nat} (hs : Sts w g) (h : w.grownBy w' (some g)) : I32 w w' :=
  ⟨h.size, fun g' i n e => h.cell e (fun e2 => by
    injection e2 with e2
    exact hs.2 i _ (by rw [← e2]; exact e) _ _ rfl)⟩
theorem QE.but {P : FP} (hP : Solid P) {w w' : World} {g g' i : Nat} (hs : Sts w g) (h : w.grownBy w' (some g)) (hne : g' ≠ g) (hq : QE P w g' i) : QE P w' g' i := by
  obtain ⟨s, p, n, c, t, q, m, d, h0, h1, h2, h3, h4⟩ := hq
  have hk : ∀ j v, w.cell? ⟨g', j, none⟩ = some v → w'.cell? ⟨g', j, none⟩ = some v := fun j v e => h.cell e (fun e2 => by injection e2 with e2; exact hne e2)
  exact ⟨s, p, n, c, t, q, m, d, hk _ _ h0, hk _ _ h1, hk _ _ h2, hk _ _ h3, hP _ _ _ _ _ _ _ _ _ _ (I32.but hs h) h4⟩
/-- The list that grows: n values in a block above g. -/
def PL (g : Nat) (f : Nat → Rat) (w : World) (v : Value) (n : Nat) : Prop := ∃ g' cap, v = .slice (some ⟨g', 0, none⟩) n cap ∧ g < g' ∧ g' < w.heap.size ∧ ∀ j, j < n → QE (IsQ (f j)) w g' (j * 4)
theorem PL.keep {g : Nat} {f : Nat → Rat} {w w' : World} {v : Value} {n : Nat} (h : PL g f w v n) (hb : Below w.heap.size w w') : PL g f w' v n := by
  obtain ⟨g', cap, e, h1, h2, h3⟩ := h
  exact ⟨g', cap, e, h1, Nat.lt_of_lt_of_le h2 hb.size, fun j hj => (h3 j hj).keep (IsQ.solid _) hb⟩
theorem PL.but {g : Nat} {f : Nat → Rat} {w w' : World} {v : Value} {n : Nat} (h : PL g f w v n) (hs : Sts w g) (hb : w.grownBy w' (some g)) : PL g f w' v n := by
  obtain ⟨g', cap, e, h1, h2, h3⟩ := h
  exact ⟨g', cap, e, h1, Nat.lt_of_lt_of_le h2 hb.size, fun j hj => (h3 j hj).but (IsQ.solid _) hs hb (by omega)⟩
theorem PL.ql {g : Nat} {f : Nat → Rat} {w : World} {v : Value} {n : Nat} (h : PL g f w v n) : QL (fun j => IsQ (f j)) w v n := by
  obtain ⟨g', cap, e, h1, h2, h3⟩ := h
  exact .inr ⟨g', 0, cap, e, h2, fun j hj => by rw [Nat.zero_add]; exact h3 j hj⟩
theorem PL.congr {g : Nat} {f f' : Nat → Rat} {w : World} {v : Value} {n : Nat} (h : PL g f w v n) (e : ∀ j, j < n → f j = f' j) : PL g f' w v n := by
  obtain ⟨g', cap, e', h1, h2, h3⟩ := h
  exact ⟨g', cap, e', h1, h2, fun j hj => by rw [← e j hj]; exact h3 j hj⟩

theorem below_but {B : Nat} {b w w' : World} {g : Nat} (h : Below B b w) (hg : w.grownBy w' (some g)) (h1 : B ≤ w.heap.size) (h2 : B ≤ g) : Below B b w' := h.grown hg h1 (fun k hk => by injection hk with hk; omega)

theorem nd64 {a : Int} (h : -1073741824 ≤ a) (h' : a ≤ 1073741824) : nd a.natAbs ≤ 2 := nd_le.2 (show a.natAbs < 4294967296 ^ 2 by omega)
end Go.Proofs.YthikonjlgljikaaGreatDoor
namespace Go.Proofs.YthikonjlgljikaaGreatDoor
set_option linter.unusedSimpArgs false
open Go.RowKit

theorem ZE.but {z : Int} {w w' : World} {g g' i : Nat} (hs : Sts w g) (h : w.grownBy w' (some g)) (hne : g' ≠ g) (hq : ZE z w g' i) : ZE z w' g' i := by
  obtain ⟨s, p, n, c, h0, h1, h4⟩ := hq
  have hk : ∀ j v, w.cell? ⟨g', j, none⟩ = some v → w'.cell? ⟨g', j, none⟩ = some v := fun j v e => h.cell e (fun e2 => by injection e2 with e2; exact hne e2)
  exact ⟨s, p, n, c, hk _ _ h0, hk _ _ h1, h4.i32 (I32.but hs h)⟩
/-- The two cells of an integer, as they are read. -/
def Cells2 (w : World) (g i : Nat) (s : Bool) (p : Option Addr) (n c : Nat) : Prop := w.cell? ⟨g, i, none⟩ = some (.bool s) ∧ w.cell? ⟨g, i + 1, none⟩ = some (.slice p n c)
theorem Cells2.keep {w w' : World} {g i : Nat} {s : Bool} {p : Option Addr} {n c : Nat} (h : Cells2 w g i s p n c) (hb : Below w.heap.size w w') : Cells2 w' g i s p n c := by
  have hk : ∀ j v, w.cell? ⟨g, j, none⟩ = some v → w'.cell? ⟨g, j, none⟩ = some v := fun j v e => (hb.cell (p := ⟨g, j, none⟩) (World.block_lt_of_cell? w ⟨g, j, none⟩ e)).trans e
  exact ⟨hk _ _ h.1, hk _ _ h.2⟩
theorem but_put2 (w : World) (g i j : Nat) (v0 v1 : Value) : w.grownBy ((w.setCell ⟨g, i, none⟩ v0).setCell ⟨g, j, none⟩ v1) (some g) := (but_put w g i v0).trans (but_put _ g j v1)
end Go.Proofs.YthikonjlgljikaaGreatDoor
