/- Rationals as the program has them; contract of rational.one. -/
import Derived.Test.YthikonjlgljikaaGreatDoorLs18
namespace Go.Proofs.YthikonjlgljikaaGreatDoor
open Go.RowKit

/-- A raw fraction x / y of value r (0 where y is 0). -/
def Qr (w : World) (s : Bool) (p : Option Addr) (n c : Nat) (t : Bool) (q : Option Addr) (m d : Nat) (r : Rat) : Prop := ∃ x y, Zr w s p n c x ∧ Zr w t q m d y ∧ Rat.divInt x y = r
/-- A normalized fraction. -/
def Qs (w : World) (s : Bool) (p : Option Addr) (n c : Nat) (t : Bool) (q : Option Addr) (m d : Nat) (r : Rat) : Prop := Zs w s p n c r.num ∧ Zs w t q m d r.den
theorem Qr.keep {w w' : World} {s : Bool} {p : Option Addr} {n c : Nat} {t : Bool} {q : Option Addr} {m d : Nat} {r : Rat} (h : Qr w s p n c t q m d r) (hb : Below w.heap.size w w') : Qr w' s p n c t q m d r := by
  obtain ⟨x, y, h1, h2, h3⟩ := h
  exact ⟨x, y, h1.keep hb, h2.keep hb, h3⟩
theorem Qs.keep {w w' : World} {s : Bool} {p : Option Addr} {n c : Nat} {t : Bool} {q : Option Addr} {m d : Nat} {r : Rat} (h : Qs w s p n c t q m d r) (hb : Below w.heap.size w w') : Qs w' s p n c t q m d r := ⟨h.1.keep hb, h.2.keep hb⟩
theorem Qs.raw {w : World} {s : Bool} {p : Option Addr} {n c : Nat} {t : Bool} {q : Option Addr} {m d : Nat} {r : Rat} (h : Qs w s p n c t q m d r) : Qr w s p n c t q m d r :=
  ⟨_, _, h.1.raw, h.2.raw, rat_self r⟩
theorem Qs.sizes {w : World} {s : Bool} {p : Option Addr} {n c : Nat} {t : Bool} {q : Option Addr} {m d : Nat} {r : Rat} (h : Qs w s p n c t q m d r) : n ≤ hq r ∧ m ≤ hq r := by
  have h1 := h.1.2.1
  have h2 := h.2.2.1
  rw [Int.natAbs_natCast] at h2
  rw [← h1, ← h2]
  exact ⟨hq_num r, hq_den r⟩
/-- A normalized fraction is returned. -/
def RetQ (w' : World) (e : Ending) (r : Rat) : Prop := ∃ s p n c t q m d, e = .returned (.agg #[.bool s, .slice p n c, .bool t, .slice q m d]) ∧ Qs w' s p n c t q m d r
/-- A truth value that is only true where z is 1. -/
def RetOne (e : Ending) (z : Int) : Prop := ∃ b : Bool, e = .returned (.bool b) ∧ (b = true → z = 1)
set_option maxRecDepth 100000 in
theorem c_one (s : Bool) (p : Option Addr) (n c : Nat) (z : Int) (w : World) (h : Zr w s p n c z) (hn : n ≤ 35184372088830) :
    Calls Tryz.prog 126 #[.agg #[.bool s, .slice p n c]] w fun e w' => RetOne e z ∧ Below w.heap.size w w' := by
  obtain ⟨a, hd, hz⟩ := h
  have HZ := Lib.hid hz
  have HB := Lib.hid (fun o => (Below.refl w.heap.size w).alloc (Nat.le_refl _) o)
  by_cases h1 : n = 1
  · subst h1
    obtain ⟨g, o, rfl, hg, hc⟩ := hd.head (by omega)
    have hcell : ∀ ob, (w.alloc ob).cell? ⟨g, o, none⟩ = some (.int .u32 (a 0 : Nat)) := fun ob => by
      exact Lib.cell?_alloc_some ob (hc 0 (by omega))
    obtain ⟨x, hx⟩ : ∃ x, a 0 = x := ⟨_, rfl⟩
    rw [hx] at hcell
    have HX := Lib.hid hx
    by_cases hx1 : x = 1
    · subst hx1
      cases s with
      | false =>
        have HV := Lib.hid (show z = 1 by rw [← HZ.out, sg_false, vf, vf, HX.out]; rfl)
        clear hd hz hc hx
        go_enter Tryz.func126, Tryz.ntmps126
        go_wp2
        go_ret
        exact ⟨⟨true, rfl, fun _ => HV.out⟩, HB.out _⟩
      | true =>
        clear hd hz hc hx
        go_enter Tryz.func126, Tryz.ntmps126
        go_wp2
        go_ret
        exact ⟨⟨false, rfl, fun h => by cases h⟩, HB.out _⟩
    · have hxb : ((x : Int) == 1) = false := beq_eq_false_iff_ne.2 (by omega)
      clear hd hz hc hx
      go_enter Tryz.func126, Tryz.ntmps126
      go_wp2
      go_ret
      exact ⟨⟨false, rfl, fun h => by cases h⟩, HB.out _⟩
  · have hnb : ((n : Int) == 1) = false := beq_eq_false_iff_ne.2 (by omega)
    clear hd hz
    go_enter Tryz.func126, Tryz.ntmps126
    go_wp2
    go_ret
    exact ⟨⟨false, rfl, fun h => by cases h⟩, HB.out _⟩
end Go.Proofs.YthikonjlgljikaaGreatDoor
