/- Contracts of the methods residue, at and count of manin's world. -/
import Derived.Test.YthikonjlgljikaaGreatDoorLs39
namespace Go.Proofs.YthikonjlgljikaaGreatDoor
open Go.RowKit

theorem c_resW (T B n wt : Nat) (L : List Nat) (f : Nat → Nat × Int) (x : Int) (w : World) (h : WorldAt w T B n wt L f) (h0 : 0 < n) (hn : n ≤ 120) :
    Calls Tryz.prog 121 #[.pointer (some ⟨T, 0, none⟩), .int .i64 x] w fun e w' => e = .returned (.int .i64 (x % (n : Int))) ∧ w' = w := by
  have h1 : -(n : Int) < x.tmod n := by have := Int.lt_tmod_of_pos x (show (0 : Int) < n by omega); omega
  have h2 : x.tmod n < n := Int.tmod_lt_of_pos x (by omega)
  have HE := Lib.hid (emod_of_tmod x n (by omega))
  have c0 := h.c0
  have hni : (n : Int) ≠ 0 := by omega
  clear h
  go_enter Tryz.func121, Tryz.ntmps121
  go_wp2
  all_goals (go_ret; refine ⟨ret_i ?_, rfl⟩; rw [← HE.out]; first | (rw [if_pos (by omega)]; done) | (rw [if_neg (by omega)]; done))
theorem c_countW (T B n wt : Nat) (L : List Nat) (f : Nat → Nat × Int) (w : World) (h : WorldAt w T B n wt L f) (hwt : wt ≤ 22) (hL : L.length ≤ 14400) :
    Calls Tryz.prog 69 #[.pointer (some ⟨T, 0, none⟩)] w fun e w' => e = .returned (.int .i64 (((wt + 1) * L.length : Nat) : Int)) ∧ ∃ m, w' = w.drewN m := by
  obtain ⟨p, c, e2, _⟩ := h.c2
  have c1 := h.c1
  obtain ⟨P, hP⟩ : ∃ P, (wt + 1) * L.length = P := ⟨_, rfl⟩
  have hPl : P ≤ 331200 := by rw [← hP]; exact Nat.mul_le_mul (by omega : wt + 1 ≤ 23) hL
  have e1 : ((wt : Int) + 1) * (L.length : Int) = (P : Nat) := by rw [← hP]; push_cast; rfl
  rw [hP]
  clear h hP
  go_enter Tryz.func69, Tryz.ntmps69
  go_wp2_with fail
  go_quiet (fail)
  go_wp2
  go_ret
  exact ⟨rfl, _, rfl⟩
set_option maxHeartbeats 4000000 in
set_option maxRecDepth 100000 in
theorem c_atW (T B n wt : Nat) (L : List Nat) (f : Nat → Nat × Int) (x y : Int) (w : World) (h : WorldAt w T B n wt L f) (hB : B ≤ w.heap.size) (h0 : 0 < n) (hn : n ≤ 120) :
    Calls Tryz.prog 122 #[.pointer (some ⟨T, 0, none⟩), .int .i64 x, .int .i64 y] w fun e w' => e = .returned (.agg #[.int .i64 ((f ((x % n).toNat * n + (y % n).toNat)).1 : Int), .int .i64 (f ((x % n).toNat * n + (y % n).toNat)).2]) ∧ Below w.heap.size w w' := by
  obtain ⟨NN, hNN⟩ : ∃ m, n * n = m := ⟨_, rfl⟩
  have hNl : NN ≤ 14400 := by rw [← hNN]; exact Nat.mul_le_mul hn hn
  have hu0 := Int.emod_nonneg x (show (n : Int) ≠ 0 by omega)
  have hu1 := Int.emod_lt_of_pos x (show (0 : Int) < n by omega)
  have hv0 := Int.emod_nonneg y (show (n : Int) ≠ 0 by omega)
  have hv1 := Int.emod_lt_of_pos y (show (0 : Int) < n by omega)
  obtain ⟨u, hu⟩ : ∃ u : Nat, x % (n : Int) = u := ⟨(x % n).toNat, by omega⟩
  obtain ⟨v, hv⟩ : ∃ v : Nat, y % (n : Int) = v := ⟨(y % n).toNat, by omega⟩
  rw [hu, hv, Int.toNat_natCast, Int.toNat_natCast]
  rw [hu] at hu0 hu1
  rw [hv] at hv0 hv1
  obtain ⟨UN, hUN⟩ : ∃ x, u * n = x := ⟨_, rfl⟩
  have e1 : (u : Int) * (n : Int) = (UN : Nat) := by rw [← hUN]; push_cast; rfl
  have hIN : UN + v < NN := by
    rw [← hUN, ← hNN]
    calc u * n + v < u * n + n := by omega
      _ = (u + 1) * n := by rw [Nat.add_mul, Nat.one_mul]
      _ ≤ n * n := Nat.mul_le_mul_right _ (by omega)
  rw [hUN]
  obtain ⟨IX, hIX⟩ : ∃ x, UN + v = x := ⟨_, rfl⟩
  rw [hIX] at hIN ⊢
  have e2 : (UN : Int) + (v : Int) = (IX : Nat) := by omega
  have HRU := Lib.hid (fun w' (hb : Below w.heap.size w w') => c_resW T B n wt L f x w' (h.keep hB hb) h0 hn)
  have HRV := Lib.hid (fun w' (hb : Below w.heap.size w w') => c_resW T B n wt L f y w' (h.keep hB hb) h0 hn)
  rw [hu] at HRU
  rw [hv] at HRV
  obtain ⟨gP, e3, hgP, h3⟩ := h.c3
  rw [hNN] at e3 h3
  have p0 := h3 (IX * 2) (by omega)
  have p1 := h3 (IX * 2 + 1) (by omega)
  have q0 : plc f (IX * 2) = .int .i64 ((f IX).1 : Int) := by unfold plc; rw [if_pos (by omega), show IX * 2 / 2 = IX by omega]
  have q1 : plc f (IX * 2 + 1) = .int .i64 (f IX).2 := by unfold plc; rw [if_neg (by omega), show (IX * 2 + 1) / 2 = IX by omega]
  rw [q0] at p0
  rw [q1] at p1
  have t0 := h.c0
  have t3 := e3
  have hTB : T < w.heap.size := Nat.lt_of_lt_of_le h.lt hB
  have hgB : gP < w.heap.size := Nat.lt_of_lt_of_le hgP hB
  have i0 : (0 : Int) ≤ (IX : Int) := by omega
  have i1 : (IX : Int) < (NN : Int) := by omega
  have v1 : IntKind.i64.wrap (UN : Int) = (UN : Nat) := IntWalk.i64_in _ (by omega)
  have v2 : IntKind.i64.wrap (IX : Int) = (IX : Nat) := IntWalk.i64_in _ (by omega)
  clear hu hv hUN hIX h e3 h3 q0 q1 hNN
  go_enter Tryz.func122, Tryz.ntmps122
  go_upto_region 1 with (fail)
  obtain ⟨w0, hw0⟩ : ∃ w0, w.alloc (.cells #[.int .i64 0, .int .i64 0] 179) = w0 := ⟨_, rfl⟩
  have hb0 : Below w.heap.size w w0 := hw0 ▸ (Below.refl _ _).alloc (Nat.le_refl _) _
  have X := hw0 ▸ Blk.new w 179 #[.int .i64 0, .int .i64 0]
  rw [hw0]
  obtain ⟨R, hR⟩ : ∃ R, w.heap.size = R := ⟨_, rfl⟩
  have t0 := cell_next hb0 t0
  have t3 := cell_next hb0 t3
  have p0 := cell_next hb0 p0
  have p1 := cell_next hb0 p1
  have HRU := Lib.hid (fun w' (hb : Below w0.heap.size w0 w') => HRU.out w' (hb0.trans (hb.mono hb0.size)))
  have HRV := Lib.hid (fun w' (hb : Below w0.heap.size w0 w') => HRV.out w' (hb0.trans (hb.mono hb0.size)))
  have hTR : R ≠ T := by omega
  have hgR : R ≠ gP := by omega
  have HB0 := Lib.hid hb0
  have HRE := Lib.hid hR
  rw [hR] at X HB0 ⊢
  have hru := HRU.out w0.drew (Below.refl _ w0).drew
  have hrv := HRV.out w0.drew (Below.refl _ w0).drew
  have HXB := Lib.hid X
  have r0 := X.at_ 0 rfl
  have r1 := X.at_ 1 rfl
  have f0 := X.free_ 0
  have f1 := X.free_ 1
  clear hw0 hb0 hTB hgB hR X
  have hS0 : w0.drew.cell? ⟨T, 0, none⟩ = some (.int .i64 (n : Int)) ∧ w0.drew.cell? ⟨T, 3, none⟩ = some (.slice (some ⟨gP, 0, none⟩) NN NN) ∧ w0.drew.cell? ⟨gP, IX * 2, none⟩ = some (.int .i64 ((f IX).1 : Int)) ∧ w0.drew.cell? ⟨gP, IX * 2 + 1, none⟩ = some (.int .i64 (f IX).2) := ⟨t0, t3, p0, p1⟩
  have HSA := Lib.hid (show ∀ (X : World) (v1 v2 : Value), (X.cell? ⟨T, 0, none⟩ = some (.int .i64 (n : Int)) ∧ X.cell? ⟨T, 3, none⟩ = some (.slice (some ⟨gP, 0, none⟩) NN NN) ∧ X.cell? ⟨gP, IX * 2, none⟩ = some (.int .i64 ((f IX).1 : Int)) ∧ X.cell? ⟨gP, IX * 2 + 1, none⟩ = some (.int .i64 (f IX).2)) → (((X.setCell ⟨R, 0, none⟩ v1).setCell ⟨R, 1, none⟩ v2).cell? ⟨T, 0, none⟩ = some (.int .i64 (n : Int)) ∧ ((X.setCell ⟨R, 0, none⟩ v1).setCell ⟨R, 1, none⟩ v2).cell? ⟨T, 3, none⟩ = some (.slice (some ⟨gP, 0, none⟩) NN NN) ∧ ((X.setCell ⟨R, 0, none⟩ v1).setCell ⟨R, 1, none⟩ v2).cell? ⟨gP, IX * 2, none⟩ = some (.int .i64 ((f IX).1 : Int)) ∧ ((X.setCell ⟨R, 0, none⟩ v1).setCell ⟨R, 1, none⟩ v2).cell? ⟨gP, IX * 2 + 1, none⟩ = some (.int .i64 (f IX).2)) from fun X v1 v2 h => ⟨by rw [World.cell?_setCell_far _ _ _ _ (by exact hTR), World.cell?_setCell_far _ _ _ _ (by exact hTR)]; exact h.1, by rw [World.cell?_setCell_far _ _ _ _ (by exact hTR), World.cell?_setCell_far _ _ _ _ (by exact hTR)]; exact h.2.1, by rw [World.cell?_setCell_far _ _ _ _ (by exact hgR), World.cell?_setCell_far _ _ _ _ (by exact hgR)]; exact h.2.2.1, by rw [World.cell?_setCell_far _ _ _ _ (by exact hgR), World.cell?_setCell_far _ _ _ _ (by exact hgR)]; exact h.2.2.2⟩)
  clear t0 t3 p0 p1
  go_region_held3 (fun w1 => w1.cell? ⟨T, 0, none⟩ = some (.int .i64 (n : Int)) ∧ w1.cell? ⟨T, 3, none⟩ = some (.slice (some ⟨gP, 0, none⟩) NN NN) ∧ w1.cell? ⟨gP, IX * 2, none⟩ = some (.int .i64 ((f IX).1 : Int)) ∧ w1.cell? ⟨gP, IX * 2 + 1, none⟩ = some (.int .i64 (f IX).2))
    (first | with_reducible exact hS0 | exact HSA.out _ _ _ hS0)
    (first
      | (go_at_call 121; with_reducible refine hru.mono ?_; rintro e w2 ⟨rfl, rfl⟩)
      | (go_at_call 121; with_reducible refine hrv.mono ?_; rintro e w2 ⟨rfl, rfl⟩))
  all_goals go_wp2
  have hE := (((HXB.out.set_ 0 (.int .i64 ((f IX).1 : Int))).set_ 1 (.int .i64 (f IX).2)).below_ (Below.refl _ _).drew (by have := HXB.out.lt; simpa using this))
  have e0 := hE.at_ 0 rfl
  have e1 := hE.at_ 1 rfl
  try simp only [Exit.inBlock, Exit.then]
  refine bodyPost_ret (by simp [results, Tryz.results122, go_sem, e0, e1]; try rfl) rfl ?_
  exact ⟨rfl, HRE.out ▸ ((HB0.out.setCell (p := ⟨R, 0, none⟩) (Nat.le_refl _) _).setCell (p := ⟨R, 1, none⟩) (Nat.le_refl _) _).drew⟩
end Go.Proofs.YthikonjlgljikaaGreatDoor
