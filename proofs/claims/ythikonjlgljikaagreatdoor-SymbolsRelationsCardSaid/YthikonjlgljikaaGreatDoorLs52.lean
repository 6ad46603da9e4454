/- Contracts of halfplanebase.CopyMatrix and halfplaneref41.Rational. -/
import Derived.Test.YthikonjlgljikaaGreatDoorLs51
namespace Go.Proofs.YthikonjlgljikaaGreatDoor
set_option linter.unusedSimpArgs false
set_option linter.unusedSimpArgs false
open Go.RowKit Eli

theorem T3_3_next {B : Nat} {w0 w w' : World} {a0 a1 a2 b0 b1 b2 : Addr} {v0 v1 v2 : Value} (hb : Below w.heap.size w w') (h : w.cell? a0 = some v0 ∧ w.cell? a1 = some v1 ∧ w.cell? a2 = some v2 ∧ w.cell? b0 = some (cellOf w b0) ∧ w.frozen? b0 = false ∧ w.cell? b1 = some (cellOf w b1) ∧ w.frozen? b1 = false ∧ w.cell? b2 = some (cellOf w b2) ∧ w.frozen? b2 = false ∧ Below B w0 w ∧ B ≤ w.heap.size) : w'.cell? a0 = some v0 ∧ w'.cell? a1 = some v1 ∧ w'.cell? a2 = some v2 ∧ w'.cell? b0 = some (cellOf w' b0) ∧ w'.frozen? b0 = false ∧ w'.cell? b1 = some (cellOf w' b1) ∧ w'.frozen? b1 = false ∧ w'.cell? b2 = some (cellOf w' b2) ∧ w'.frozen? b2 = false ∧ Below B w0 w' ∧ B ≤ w'.heap.size := TT.next (B := B) (w0 := w0) (l := [(a0, v0), (a1, v1), (a2, v2)]) (m := [b0, b1, b2]) hb h
theorem T3_3_below {B : Nat} {w0 w : World} {a0 a1 a2 b0 b1 b2 : Addr} {v0 v1 v2 : Value} (h : w.cell? a0 = some v0 ∧ w.cell? a1 = some v1 ∧ w.cell? a2 = some v2 ∧ w.cell? b0 = some (cellOf w b0) ∧ w.frozen? b0 = false ∧ w.cell? b1 = some (cellOf w b1) ∧ w.frozen? b1 = false ∧ w.cell? b2 = some (cellOf w b2) ∧ w.frozen? b2 = false ∧ Below B w0 w ∧ B ≤ w.heap.size) : Below B w0 w := TT.below (B := B) (w0 := w0) (l := [(a0, v0), (a1, v1), (a2, v2)]) (m := [b0, b1, b2]) h
theorem T3_3_put {B : Nat} {w0 w : World} {a0 a1 a2 b0 b1 b2 : Addr} {v0 v1 v2 : Value} (h : w.cell? a0 = some v0 ∧ w.cell? a1 = some v1 ∧ w.cell? a2 = some v2 ∧ w.cell? b0 = some (cellOf w b0) ∧ w.frozen? b0 = false ∧ w.cell? b1 = some (cellOf w b1) ∧ w.frozen? b1 = false ∧ w.cell? b2 = some (cellOf w b2) ∧ w.frozen? b2 = false ∧ Below B w0 w ∧ B ≤ w.heap.size) {p0 p1 p2 : Addr} {u0 u1 u2 : Value} (hp0 : B ≤ p0.block) (hn0_0 : p0.block ≠ a0.block) (hn0_1 : p0.block ≠ a1.block) (hn0_2 : p0.block ≠ a2.block) (hp1 : B ≤ p1.block) (hn1_0 : p1.block ≠ a0.block) (hn1_1 : p1.block ≠ a1.block) (hn1_2 : p1.block ≠ a2.block) (hp2 : B ≤ p2.block) (hn2_0 : p2.block ≠ a0.block) (hn2_1 : p2.block ≠ a1.block) (hn2_2 : p2.block ≠ a2.block) : (((w.setCell p0 u0).setCell p1 u1).setCell p2 u2).cell? a0 = some v0 ∧ (((w.setCell p0 u0).setCell p1 u1).setCell p2 u2).cell? a1 = some v1 ∧ (((w.setCell p0 u0).setCell p1 u1).setCell p2 u2).cell? a2 = some v2 ∧ (((w.setCell p0 u0).setCell p1 u1).setCell p2 u2).cell? b0 = some (cellOf (((w.setCell p0 u0).setCell p1 u1).setCell p2 u2) b0) ∧ (((w.setCell p0 u0).setCell p1 u1).setCell p2 u2).frozen? b0 = false ∧ (((w.setCell p0 u0).setCell p1 u1).setCell p2 u2).cell? b1 = some (cellOf (((w.setCell p0 u0).setCell p1 u1).setCell p2 u2) b1) ∧ (((w.setCell p0 u0).setCell p1 u1).setCell p2 u2).frozen? b1 = false ∧ (((w.setCell p0 u0).setCell p1 u1).setCell p2 u2).cell? b2 = some (cellOf (((w.setCell p0 u0).setCell p1 u1).setCell p2 u2) b2) ∧ (((w.setCell p0 u0).setCell p1 u1).setCell p2 u2).frozen? b2 = false ∧ Below B w0 (((w.setCell p0 u0).setCell p1 u1).setCell p2 u2) ∧ B ≤ (((w.setCell p0 u0).setCell p1 u1).setCell p2 u2).heap.size := (TT.put (B := B) (w0 := w0) (l := [(a0, v0), (a1, v1), (a2, v2)]) (m := [b0, b1, b2]) (TT.put (B := B) (w0 := w0) (l := [(a0, v0), (a1, v1), (a2, v2)]) (m := [b0, b1, b2]) (TT.put (B := B) (w0 := w0) (l := [(a0, v0), (a1, v1), (a2, v2)]) (m := [b0, b1, b2]) h p0 u0 hp0 (by simp [*])) p1 u1 hp1 (by simp [*])) p2 u2 hp2 (by simp [*]))

theorem OwnQ.base {F : Nat → FP} {w : World} {B B' n : Nat} {v : Value} (h : OwnQ F w B v n) (hB : B' ≤ B) : OwnQ F w B' v n := by
  obtain ⟨xs, h1, h2⟩ := h
  refine ⟨xs, ⟨⟨h1.1.1, ?_⟩, h1.2⟩, h2⟩
  rcases h1.1.2 with h | ⟨g', cap, cs, e, hB', hr⟩
  · exact .inl h
  · exact .inr ⟨g', cap, cs, e, Nat.le_trans hB hB', hr⟩
theorem OwnQ.imp {F G : Nat → FP} {w : World} {B n : Nat} {v : Value} (h : OwnQ F w B v n) (hi : ∀ j, j < n → ∀ s p k c t q m d, F j w s p k c t q m d → G j w s p k c t q m d) : OwnQ G w B v n := by
  obtain ⟨xs, h1, h2⟩ := h
  refine ⟨xs, h1, fun j hj => ?_⟩
  obtain ⟨s, p, k, c, t, q, m, d, e0, e1, e2, e3, hf⟩ := h2 j hj
  exact ⟨s, p, k, c, t, q, m, d, e0, e1, e2, e3, hi j hj _ _ _ _ _ _ _ _ hf⟩
theorem IsS.rat {z : Int} {w : World} {s : Bool} {p : Option Addr} {n c : Nat} {t : Bool} {q : Option Addr} {m d : Nat} (h : IsS z 1 w s p n c t q m d) : IsQ (z : Rat) w s p n c t q m d := by
  refine ⟨?_, ?_⟩
  · rw [Rat.num_intCast]; exact h.1
  · rw [Rat.den_intCast]; exact h.2.1
theorem ql_value {F : Nat → FP} {w : World} {v : Value} {n : Nat} (h : QL F w v n) : ∃ p c, v = .slice p n c := by
  rcases h with ⟨rfl, a, c, e⟩ | ⟨g, o, cap, e, _⟩
  · exact ⟨a, c, e⟩
  · exact ⟨_, cap, e⟩
set_option maxHeartbeats 4000000 in
set_option maxRecDepth 100000 in
theorem c_CopyMatrixS (R C : Int) (v : Value) (n : Nat) (x y : Nat → Int) (w : World) (h : QL (fun j => IsS (x j) (y j)) w v n) (hn : n ≤ 1000000) :
    Calls Tryz.prog 75 #[.agg #[.int .i64 R, .int .i64 C, v]] w fun e w' => (∃ v', e = .returned (.agg #[.int .i64 R, .int .i64 C, v']) ∧ OwnQ (fun j => IsS (x j) (y j)) w' w.heap.size v' n) ∧ Below w.heap.size w w' := by
  obtain ⟨p, c, rfl⟩ := ql_value h
  have HCR := Lib.hid (fun W (hb : Below w.heap.size w W) => c_CopyRatsS (.slice p n c) n x y W (h.keep (fun _ => IsS.solid _ _) hb) hn)
  clear h
  go_enter Tryz.func75, Tryz.ntmps75
  go_upto_region 1 with (fail)
  obtain ⟨w0, hw0⟩ : ∃ w0, (w.alloc (.cells #[.int .i64 R, .int .i64 C, .slice p n c] 51)).alloc (.cells #[.int .i64 0, .int .i64 0, .slice none 0 0] 51) = w0 := ⟨_, rfl⟩
  rw [hw0]
  obtain ⟨X0, X1, hb0⟩ := box2 w #[.int .i64 R, .int .i64 C, .slice p n c] 51 #[.int .i64 0, .int .i64 0, .slice none 0 0] 51
  rw [hw0] at X0 X1 hb0
  have hs0 : w.heap.size ≤ w0.heap.size := hb0.size
  have HX1 := Lib.hid X1
  have HLT := Lib.hid X1.lt
  have HST0 := Lib.hid (Stk.of (K := NotU32) X1 (by intro v hv; simp at hv; rcases hv with rfl | rfl | rfl <;> exact fun _ h => by cases h))
  clear hw0
  have hS1 : w0.cell? ⟨w.heap.size, 0, none⟩ = some (.int .i64 R) ∧ w0.cell? ⟨w.heap.size, 1, none⟩ = some (.int .i64 C) ∧ w0.cell? ⟨w.heap.size, 2, none⟩ = some (.slice p n c) ∧ w0.cell? ⟨w.heap.size + 1, 0, none⟩ = some (cellOf w0 ⟨w.heap.size + 1, 0, none⟩) ∧ w0.frozen? ⟨w.heap.size + 1, 0, none⟩ = false ∧ w0.cell? ⟨w.heap.size + 1, 1, none⟩ = some (cellOf w0 ⟨w.heap.size + 1, 1, none⟩) ∧ w0.frozen? ⟨w.heap.size + 1, 1, none⟩ = false ∧ w0.cell? ⟨w.heap.size + 1, 2, none⟩ = some (cellOf w0 ⟨w.heap.size + 1, 2, none⟩) ∧ w0.frozen? ⟨w.heap.size + 1, 2, none⟩ = false ∧ Below w.heap.size w w0 ∧ w.heap.size ≤ w0.heap.size := ⟨X0.at_ 0 rfl, X0.at_ 1 rfl, X0.at_ 2 rfl, cellOf_some (by rw [X1.at_ 0 rfl]; rfl), X1.free_ 0, cellOf_some (by rw [X1.at_ 1 rfl]; rfl), X1.free_ 1, cellOf_some (by rw [X1.at_ 2 rfl]; rfl), X1.free_ 2, hb0, Below.size (show Below w.heap.size w w0 from hb0)⟩
  have hS0 : w0.drew.cell? ⟨w.heap.size, 0, none⟩ = some (.int .i64 R) ∧ w0.drew.cell? ⟨w.heap.size, 1, none⟩ = some (.int .i64 C) ∧ w0.drew.cell? ⟨w.heap.size, 2, none⟩ = some (.slice p n c) ∧ w0.drew.cell? ⟨w.heap.size + 1, 0, none⟩ = some (cellOf w0.drew ⟨w.heap.size + 1, 0, none⟩) ∧ w0.drew.frozen? ⟨w.heap.size + 1, 0, none⟩ = false ∧ w0.drew.cell? ⟨w.heap.size + 1, 1, none⟩ = some (cellOf w0.drew ⟨w.heap.size + 1, 1, none⟩) ∧ w0.drew.frozen? ⟨w.heap.size + 1, 1, none⟩ = false ∧ w0.drew.cell? ⟨w.heap.size + 1, 2, none⟩ = some (cellOf w0.drew ⟨w.heap.size + 1, 2, none⟩) ∧ w0.drew.frozen? ⟨w.heap.size + 1, 2, none⟩ = false ∧ Below w.heap.size w w0.drew ∧ w.heap.size ≤ w0.drew.heap.size := T3_3_next (Below.refl _ w0).drew hS1
  clear X0 X1 hS1
  have M1 : True := trivial
  go_region_held3 (fun w1 => w1.cell? ⟨w.heap.size, 0, none⟩ = some (.int .i64 R) ∧ w1.cell? ⟨w.heap.size, 1, none⟩ = some (.int .i64 C) ∧ w1.cell? ⟨w.heap.size, 2, none⟩ = some (.slice p n c) ∧ w1.cell? ⟨w.heap.size + 1, 0, none⟩ = some (cellOf w1 ⟨w.heap.size + 1, 0, none⟩) ∧ w1.frozen? ⟨w.heap.size + 1, 0, none⟩ = false ∧ w1.cell? ⟨w.heap.size + 1, 1, none⟩ = some (cellOf w1 ⟨w.heap.size + 1, 1, none⟩) ∧ w1.frozen? ⟨w.heap.size + 1, 1, none⟩ = false ∧ w1.cell? ⟨w.heap.size + 1, 2, none⟩ = some (cellOf w1 ⟨w.heap.size + 1, 2, none⟩) ∧ w1.frozen? ⟨w.heap.size + 1, 2, none⟩ = false ∧ Below w.heap.size w w1 ∧ w.heap.size ≤ w1.heap.size)
    (first | with_reducible exact hS0 | with_reducible assumption | (refine T3_3_next (by with_reducible assumption) ?_; assumption) | (refine T3_3_put ?_ ?_ ?_ ?_ ?_ ?_ ?_ ?_ ?_ ?_ ?_ ?_ ?_ <;> first | assumption | (dsimp only; omega) | (simp; done)))
    (first
      | (go_at_call 13; (refine (HCR.out _ (T3_3_below (by with_reducible assumption))).mono ?_); rintro e w7 ⟨⟨v7, rfl, ho7⟩, hb7⟩; obtain ⟨p7, c7, rfl⟩ := ql_value ho7.ql; have hbe : Below w0.heap.size w0 w7 := (by first | exact (Below.refl _ w0).drew.trans hb7 | exact hb7); have HO7 := Lib.hid (OwnQ.base ho7 (show w0.heap.size ≤ _ from by first | exact Nat.le_refl _ | (simp only [World.drew]; omega))); have r0 : w7.cell? ⟨w.heap.size + 1, 0, none⟩ = some (.int .i64 0) := (HX1.out.below_ hbe HX1.out.lt).at_ 0 rfl; have r1 : w7.cell? ⟨w.heap.size + 1, 1, none⟩ = some (.int .i64 0) := (HX1.out.below_ hbe HX1.out.lt).at_ 1 rfl; have r2 : w7.cell? ⟨w.heap.size + 1, 2, none⟩ = some (.slice none 0 0) := (HX1.out.below_ hbe HX1.out.lt).at_ 2 rfl; have HST := Lib.hid (HST0.out.next hbe); clear ho7 hbe))

  all_goals go_wp2
  all_goals (try simp only [Exit.inBlock, Exit.then])
  all_goals refine bodyPost_ret (by simp [results, Tryz.results75, go_sem, r0, r1, r2]; try rfl) rfl ?_
  all_goals refine ⟨⟨_, rfl, ?_⟩, T3_3_below (by assumption)⟩
  all_goals exact ((HO7.out.box (fun _ => IsS.solid _ _) (put3_32 HST.out (v0 := .int .i64 R) (v1 := .int .i64 C) (v2 := .slice p7 n c7) (fun _ h => by cases h) (fun _ h => by cases h)) (((but_put _ (w.heap.size + 1) 0 (.int .i64 R)).trans (but_put _ (w.heap.size + 1) 1 (.int .i64 C))).trans (but_put _ (w.heap.size + 1) 2 (.slice p7 n c7))) (by have := HLT.out; omega)).base hs0)
set_option maxHeartbeats 4000000 in
set_option maxRecDepth 100000 in
theorem c_Rational (R C : Nat) (g o cap n : Nat) (f : Nat → Int) (w : World) (h : ∀ j, j < n → ZE (f j) w g (o + j * 2)) (hg : g < w.heap.size) (hf : ∀ j, j < n → nd (f j).natAbs ≤ 1000) (hn : n ≤ 100000) :
    Calls Tryz.prog 34 #[.agg #[.int .i64 R, .int .i64 C, .slice (some ⟨g, o, none⟩) n cap]] w fun e w' => (∃ v, e = .returned (.agg #[.int .i64 R, .int .i64 C, v]) ∧ OwnQ (fun j => IsQ (f j : Rat)) w' w.heap.size v n) ∧ Below w.heap.size w w' := by
  have HE := Lib.hid h
  have HF := Lib.hid hf
  clear h hf
  go_enter Tryz.func34, Tryz.ntmps34
  go_wp2_with fail
  obtain ⟨wx, hwx⟩ : ∃ wx, ((w.alloc (.cells #[.int .i64 R, .int .i64 C, .slice (some ⟨g, o, none⟩) n cap] 76)).alloc (.cells #[.int .i64 0, .int .i64 0, .slice none 0 0] 51)).alloc (.cells #[.int .i64 R, .int .i64 C, .slice none 0 0] 51) = wx := ⟨_, rfl⟩
  obtain ⟨X0, X1, X2, hb0⟩ := box3 w #[.int .i64 R, .int .i64 C, .slice (some ⟨g, o, none⟩) n cap] 76 #[.int .i64 0, .int .i64 0, .slice none 0 0] 51 #[.int .i64 R, .int .i64 C, .slice none 0 0] 51
  rw [hwx] at X0 X1 X2 hb0 ⊢
  obtain ⟨bm, hbm⟩ : ∃ x, w.heap.size = x := ⟨_, rfl⟩
  obtain ⟨gr, hgr⟩ : ∃ x, w.heap.size + 1 = x := ⟨_, rfl⟩
  obtain ⟨ob, hob⟩ : ∃ x, w.heap.size + 1 + 1 = x := ⟨_, rfl⟩
  rw [hob] at X2 ⊢
  rw [hgr] at X1 ⊢
  rw [hbm] at X0 hb0 hg ⊢
  have HORD := Lib.hid (show bm < gr ∧ gr < ob by omega)
  have HBE := Lib.hid hbm
  have HBX := Lib.hid hb0
  have HX0 := Lib.hid X0
  have HX1 := Lib.hid X1
  obtain ⟨BB, hBB⟩ : ∃ x, wx.heap.size = x := ⟨_, rfl⟩
  have HBB := Lib.hid hBB
  have HGS := Lib.hid (show ∀ j, Solid (IsS (f j) 1) from fun j => IsS.solid _ _)
  have HM0 := Lib.hid (show MatAt (fun j => IsS (f j) 1) wx ob BB R C 0 from
    ⟨by rw [← hBB]; exact X2.lt, Nat.le_of_eq hBB.symm, X2.at_ 0 rfl, X2.at_ 1 rfl, ⟨none, 0, X2.at_ 2 rfl, OwnQ.nil _ _ _⟩, X2.free_ 2, Stk.of X2 (by intro v hv; simp at hv; rcases hv with rfl | rfl | rfl <;> exact fun _ h => by cases h)⟩)
  clear hwx hb0 X0 X1 X2 hbm hgr hob hBB
  go_loopw [4] (fun ii wr => ∃ k : Nat, k ≤ n ∧ ii = .int .i64 k ∧ MatAt (fun j => IsS (f j) 1) wr ob BB R C k ∧ wx.grownBy wr (some ob)) (fun ii _ => n - (intOf ii).toNat)
  case atStart => exact ⟨0, Nat.zero_le _, rfl, HM0.out, but_below ob (Below.refl _ _)⟩
  case round =>
    obtain ⟨k, hk, rfl, hmat, hgw⟩ := hrel
    obtain ⟨we, rfl⟩ : ∃ we : World, we = wr := ⟨_, rfl⟩
    have HMT := Lib.hid hmat
    have HGW := Lib.hid hgw
    clear hmat hgw HM0
    have HBW := Lib.hid (show Below bm w we from below_but HBX.out HGW.out (by have := HBB.out; have := HMT.out.lt; have := HORD.out; omega) (by have := HORD.out; omega))
    have hne : bm ≠ ob := by have := HORD.out; omega
    have x2 := HGW.out.cell (HX0.out.at_ 2 rfl) (fun e => by injection e with e; exact hne e)
    by_cases hlt : k < n
    · have hki : (k : Int) < (n : Int) := by omega
      have hbw := HBW.out
      rw [← HBE.out] at hbw
      obtain ⟨s1, p1, n1, c1, a0, a1, hz⟩ := (HE.out k hlt).keep hbw
      have HZ := Lib.hid (show Zs we s1 p1 n1 c1 (f k) from hz)
      have HN1 := Lib.hid (show n1 ≤ 1000 by have := HF.out k hlt; rw [hz.2.1] at this; exact this)
      have HZ1 := Lib.hid (fun W => c_Z 1 W (by omega) (by omega))
      obtain ⟨p, c, g2, xs, hK, hXX⟩ := HMT.out.c2
      have HKK := Lib.hid (show ∀ W, Below we.heap.size we W → OwnK NotInt W BB 35 4 (.slice p k c) k xs from fun W hb => hK.keep hb)
      have HXK := Lib.hid (show ∀ W, Below we.heap.size we W → ∀ j, j < k → QX (IsS (f j) 1) W xs (j * 4) from fun W hb j hj => (hXX j hj).i32 (HGS.out j) (I32.below hb))
      have HCL := Lib.hid (show ∀ W, Below we.heap.size we W → W.cell? ⟨ob, 2, none⟩ = some (.slice p k c) from fun W hb => cell_next hb g2)
      have HS1 := Lib.hid (show ∀ W, Below we.heap.size we W → (W.cell? ⟨bm, 2, none⟩ = some (.slice (some ⟨g, o, none⟩) n cap) ∧ W.cell? ⟨g, o + k * 2, none⟩ = some (.bool s1) ∧ W.cell? ⟨g, o + k * 2 + 1, none⟩ = some (.slice p1 n1 c1) ∧ W.cell? ⟨ob, 2, none⟩ = some (cellOf W ⟨ob, 2, none⟩) ∧ W.frozen? ⟨ob, 2, none⟩ = false) from fun W hb => ⟨cell_next hb x2, cell_next hb a0, cell_next hb a1, cellOf_some (by rw [cell_next hb g2]; rfl), frozen_keep hb (by rw [g2]; rfl) HMT.out.fr⟩)
      have hS0 := HS1.out _ (Below.refl _ we).drew
      have HV1 := Lib.hid (show cellOf we.drew ⟨ob, 2, none⟩ = .slice p k c from cellOf_eq (HCL.out _ (Below.refl _ we).drew))
      have HK1 := Lib.hid (show ∀ wb, Below we.drew.heap.size we.drew wb → Below we.heap.size we wb from fun wb hb => (Below.refl _ we).drew.trans hb)
      have hobl : ob < we.heap.size := Nat.lt_of_lt_of_le HMT.out.lt HMT.out.hB
      have hgob : g ≠ ob := by have := HORD.out; omega
      have HGO := Lib.hid (And.intro hgob hne)
      clear hbw g2 hK hXX hz a0 a1
      go_upto_region 5 with (fail)
      clear x2
      refine wp_region_held_drew (S := (fun W => W.cell? ⟨bm, 2, none⟩ = some (.slice (some ⟨g, o, none⟩) n cap) ∧ W.cell? ⟨g, o + k * 2, none⟩ = some (.bool s1) ∧ W.cell? ⟨g, o + k * 2 + 1, none⟩ = some (.slice p1 n1 c1) ∧ W.cell? ⟨ob, 2, none⟩ = some (cellOf W ⟨ob, 2, none⟩) ∧ W.frozen? ⟨ob, 2, none⟩ = false)) (by kernel_rfl) ?_ (fun hHeld0 => ?_)
      focus ((try dsimp only); (first | with_reducible exact hS0 | with_reducible exact HSF.out | with_reducible exact HSA.out | with_reducible exact HSP.out | with_reducible exact HSQ.out))
      refine wpAnyH_take (i := 0) (v := ?_) rfl (by kernel_rfl) (by kernel_rfl) (by kernel_rfl) (fun _ _ _ h => h) (Or.inl ⟨by rfl, ?_⟩) (by assumption) ?_
      rotate_left
      focus (intro w hSw; (try dsimp only at hSw); go_simp; (try with_reducible rfl))
      focus (try simp only [Act.put, List.setIfInBounds_toArray, List.set_cons_zero, List.set_cons_succ])
      refine wpAnyH_take (i := 2) (v := ?_) rfl (by kernel_rfl) (by kernel_rfl) (by kernel_rfl) (fun _ _ _ h => h) (Or.inl ⟨by rfl, ?_⟩) (by assumption) ?_
      rotate_left
      focus (intro w hSw; (try dsimp only at hSw); go_simp; (try with_reducible rfl))
      focus (try simp only [Act.put, List.setIfInBounds_toArray, List.set_cons_zero, List.set_cons_succ])
      refine wpAnyH_take (i := 3) (v := ?_) rfl (by kernel_rfl) (by kernel_rfl) (by kernel_rfl) (fun _ _ _ h => h) (Or.inl ⟨by rfl, ?_⟩) (by assumption) ?_
      rotate_left
      focus (intro w hSw; (try dsimp only at hSw); go_simp; (try with_reducible rfl))
      focus (try simp only [Act.put, List.setIfInBounds_toArray, List.set_cons_zero, List.set_cons_succ])
      refine wpAnyH_take (i := 4) (v := ?_) rfl (by kernel_rfl) (by kernel_rfl) (by kernel_rfl) (fun _ _ _ h => h) (Or.inl ⟨by rfl, ?_⟩) (by assumption) ?_
      rotate_left
      focus (intro w hSw; (try dsimp only at hSw); go_simp; (try with_reducible rfl))
      focus (try simp only [Act.put, List.setIfInBounds_toArray, List.set_cons_zero, List.set_cons_succ])
      refine wpAnyH_take (i := 5) (v := ?_) rfl (by kernel_rfl) (by kernel_rfl) (by kernel_rfl) (fun _ _ _ h => h) (Or.inl ⟨by rfl, ?_⟩) (by assumption) ?_
      rotate_left
      focus (intro w hSw; (try dsimp only at hSw); go_simp; (try with_reducible rfl))
      focus (try simp only [Act.put, List.setIfInBounds_toArray, List.set_cons_zero, List.set_cons_succ])
      refine wpAnyH_take (i := 6) (v := ?_) rfl (by kernel_rfl) (by kernel_rfl) (by kernel_rfl) (fun _ _ _ h => h) (Or.inl ⟨by rfl, ?_⟩) (by assumption) ?_
      rotate_left
      focus (intro w hSw; (try dsimp only at hSw); go_simp; (try with_reducible rfl))
      focus (try simp only [Act.put, List.setIfInBounds_toArray, List.set_cons_zero, List.set_cons_succ])
      refine wpAnyH_ready (rs := [1, 7]) (by kernel_rfl) (by simp) ?_
      refine AllReadyH.cons rfl (fun K hK => ?_) ?_
      focus (go_simp; refine hK.out _ _ ?_ (fun hHeld1 => ?_))
      focus ((try dsimp only); (first | with_reducible exact hS0 | with_reducible exact HSF.out | with_reducible exact HSA.out | with_reducible exact HSP.out | with_reducible exact HSQ.out))
      focus (clear hK K hHeld0; (try simp only [Act.put, List.setIfInBounds_toArray, List.set_cons_zero, List.set_cons_succ]))
      refine wpAnyH_ready (rs := [7]) (by kernel_rfl) (by simp) ?_
      refine AllReadyH.cons rfl (fun K hK => ?_) ?_
      focus (go_simp; (first | (go_at_call 74; (with_reducible refine (HZ1.out _).mono ?_); rintro e w5 ⟨⟨s5, p5, n5, c5, rfl, hz5⟩, hb5⟩; have HB5 := Lib.hid (HK1.out _ hb5); have HSF := Lib.hid (HS1.out _ HB5.out); have HSA := Lib.hid (HS1.out _ (HB5.out.alloc HB5.out.size (.cells #[.bool s1, .slice p1 n1 c1, .bool s5, .slice p5 n5 c5] 35))); have HV2 := Lib.hid (show cellOf w5 ⟨ob, 2, none⟩ = .slice p k c from cellOf_eq (HCL.out _ HB5.out)); have HV3 := Lib.hid (show cellOf (w5.alloc (.cells #[.bool s1, .slice p1 n1 c1, .bool s5, .slice p5 n5 c5] 35)) ⟨ob, 2, none⟩ = .slice p k c from cellOf_eq (HCL.out _ (HB5.out.alloc HB5.out.size _))); have HQ5 := Lib.hid (show IsS (f k) 1 w5 s1 p1 n1 c1 s5 p5 n5 c5 from ⟨HZ.out.keep HB5.out, hz5, HN1.out, by have := hz5.2.1; have h2 : nd (1 : Int).natAbs ≤ 1 := (by decide +kernel); omega⟩); clear hz5 hb5) | ((first | (refine step_app2 (W := w5) NotInt rfl (.tmp 18) (.tmp 26) _ 35 rfl Tryz.underlying24 ratInfo rfl (by decide) BB k (.slice p k c) xs [.bool s1, .slice p1 n1 c1, .bool s5, .slice p5 n5 c5] HV1.out (HKK.out _ HB5.out) rfl rfl (one4 _ _ _ _ _ _ _ _) (by omega) (by omega) (Nat.le_trans HMT.out.hB HB5.out.size) (ni4 _ _ _ _ _ _ _ _) niz ?_) | (refine step_app2 (W := w5) NotInt rfl (.tmp 18) (.tmp 26) _ 35 rfl Tryz.underlying24 ratInfo rfl (by decide) BB k (.slice p k c) xs [.bool s1, .slice p1 n1 c1, .bool s5, .slice p5 n5 c5] HV2.out (HKK.out _ HB5.out) rfl rfl (one4 _ _ _ _ _ _ _ _) (by omega) (by omega) (Nat.le_trans HMT.out.hB HB5.out.size) (ni4 _ _ _ _ _ _ _ _) niz ?_) | (refine step_app2 (W := w5) NotInt rfl (.tmp 18) (.tmp 26) _ 35 rfl Tryz.underlying24 ratInfo rfl (by decide) BB k (.slice p k c) xs [.bool s1, .slice p1 n1 c1, .bool s5, .slice p5 n5 c5] HV3.out (HKK.out _ HB5.out) rfl rfl (one4 _ _ _ _ _ _ _ _) (by omega) (by omega) (Nat.le_trans HMT.out.hB HB5.out.size) (ni4 _ _ _ _ _ _ _ _) niz ?_)); intro v9 w9 hown9 hgr9 hat9; obtain ⟨p9, c9, rfl⟩ := own_slice hown9.1; have HFX := Lib.hid (show we.cell? ⟨bm, 2, none⟩ = some (.slice (some ⟨g, o, none⟩) n cap) ∧ we.cell? ⟨g, o + k * 2, none⟩ = some (.bool s1) ∧ we.cell? ⟨g, o + k * 2 + 1, none⟩ = some (.slice p1 n1 c1) from ⟨(HS1.out _ (Below.refl _ we)).1, (HS1.out _ (Below.refl _ we)).2.1, (HS1.out _ (Below.refl _ we)).2.2.1⟩); have HO9 := Lib.hid (OwnQ.push (F := fun j => IsS (f j) 1) (W := w5) HGS.out (HKK.out _ HB5.out) (HXK.out _ HB5.out) HQ5.out hown9 hgr9); obtain ⟨d2, df, hm9⟩ := MatAt.more HGS.out (HMT.out.keep HGS.out HB5.out) (HCL.out _ HB5.out) (HKK.out _ HB5.out).1 HO9.out hgr9; have HM9 := Lib.hid hm9; have hb9 : Below BB we w9 := own_below (HB5.out.mono HMT.out.hB) (HKK.out _ HB5.out).1 hgr9 (Nat.le_refl _) (Nat.le_trans HMT.out.hB HB5.out.size); have HSP := Lib.hid (show (w9.cell? ⟨bm, 2, none⟩ = some (.slice (some ⟨g, o, none⟩) n cap) ∧ w9.cell? ⟨g, o + k * 2, none⟩ = some (.bool s1) ∧ w9.cell? ⟨g, o + k * 2 + 1, none⟩ = some (.slice p1 n1 c1) ∧ w9.cell? ⟨ob, 2, none⟩ = some (cellOf w9 ⟨ob, 2, none⟩) ∧ w9.frozen? ⟨ob, 2, none⟩ = false) from ⟨(hb9.cell (p := ⟨bm, 2, none⟩) (by have := HMT.out.lt; have := HORD.out; show bm < BB; omega)).trans HFX.out.1, (hb9.cell (p := ⟨g, o + k * 2, none⟩) (by have := HMT.out.lt; have := HORD.out; show g < BB; omega)).trans HFX.out.2.1, (hb9.cell (p := ⟨g, o + k * 2 + 1, none⟩) (by have := HMT.out.lt; have := HORD.out; show g < BB; omega)).trans HFX.out.2.2, cellOf_some (by rw [d2]; rfl), df⟩); have HSQ := Lib.hid (show ((w9.setCell ⟨ob, 2, none⟩ (.slice p9 (k + 1) c9)).cell? ⟨bm, 2, none⟩ = some (.slice (some ⟨g, o, none⟩) n cap) ∧ (w9.setCell ⟨ob, 2, none⟩ (.slice p9 (k + 1) c9)).cell? ⟨g, o + k * 2, none⟩ = some (.bool s1) ∧ (w9.setCell ⟨ob, 2, none⟩ (.slice p9 (k + 1) c9)).cell? ⟨g, o + k * 2 + 1, none⟩ = some (.slice p1 n1 c1) ∧ (w9.setCell ⟨ob, 2, none⟩ (.slice p9 (k + 1) c9)).cell? ⟨ob, 2, none⟩ = some (cellOf (w9.setCell ⟨ob, 2, none⟩ (.slice p9 (k + 1) c9)) ⟨ob, 2, none⟩) ∧ (w9.setCell ⟨ob, 2, none⟩ (.slice p9 (k + 1) c9)).frozen? ⟨ob, 2, none⟩ = false) from ⟨by rw [World.cell?_setCell_far _ _ _ _ (show ob ≠ bm from fun e => HGO.out.2 e.symm)]; exact HSP.out.1, by rw [World.cell?_setCell_far _ _ _ _ (show ob ≠ g from fun e => HGO.out.1 e.symm)]; exact HSP.out.2.1, by rw [World.cell?_setCell_far _ _ _ _ (show ob ≠ g from fun e => HGO.out.1 e.symm)]; exact HSP.out.2.2.1, cellOf_some (some_put (by rw [d2]; rfl)), frozen_set df⟩); have HG9 := Lib.hid ((grown_own (HGW.out.trans (but_below ob HB5.out)) hgr9 HBB.out.symm (fun b hb => own_ge (HKK.out _ HB5.out).1 hb.symm)).trans (but_put w9 ob 2 (.slice p9 (k + 1) c9))); clear hown9 hgr9 hat9 hb9 hm9)); (first | done | with_reducible refine hK.out _ _ ?_ (fun hHeld2 => ?_) | (go_wp2_with fail; with_reducible refine hK.out _ _ ?_ (fun hHeld2 => ?_))))
      focus ((try dsimp only); (first | with_reducible exact hS0 | with_reducible exact HSF.out | with_reducible exact HSA.out | with_reducible exact HSP.out | with_reducible exact HSQ.out))
      focus (clear hK K hHeld1; (try simp only [Act.put, List.setIfInBounds_toArray, List.set_cons_zero, List.set_cons_succ]))
      refine wpAnyH_take (i := 8) (v := ?_) rfl (by kernel_rfl) (by kernel_rfl) (by kernel_rfl) (fun _ _ _ h => h) (Or.inl ⟨by rfl, ?_⟩) (by assumption) ?_
      rotate_left
      focus (intro w hSw; (try dsimp only at hSw); go_simp; (try with_reducible rfl))
      focus (try simp only [Act.put, List.setIfInBounds_toArray, List.set_cons_zero, List.set_cons_succ])
      refine wpAnyH_ready (rs := [9]) (by kernel_rfl) (by simp) ?_
      refine AllReadyH.cons rfl (fun K hK => ?_) ?_
      focus (go_simp; refine hK.out _ _ ?_ (fun hHeld3 => ?_))
      focus ((try dsimp only); (first | with_reducible exact hS0 | with_reducible exact HSF.out | with_reducible exact HSA.out | with_reducible exact HSP.out | with_reducible exact HSQ.out))
      focus (clear hK K hHeld2; (try simp only [Act.put, List.setIfInBounds_toArray, List.set_cons_zero, List.set_cons_succ]))
      refine wpAnyH_ready (rs := [10]) (by kernel_rfl) (by simp) ?_
      refine AllReadyH.cons rfl (fun K hK => ?_) ?_
      focus ((first | (go_at_call 74; (with_reducible refine (HZ1.out _).mono ?_); rintro e w5 ⟨⟨s5, p5, n5, c5, rfl, hz5⟩, hb5⟩; have HB5 := Lib.hid (HK1.out _ hb5); have HSF := Lib.hid (HS1.out _ HB5.out); have HSA := Lib.hid (HS1.out _ (HB5.out.alloc HB5.out.size (.cells #[.bool s1, .slice p1 n1 c1, .bool s5, .slice p5 n5 c5] 35))); have HV2 := Lib.hid (show cellOf w5 ⟨ob, 2, none⟩ = .slice p k c from cellOf_eq (HCL.out _ HB5.out)); have HV3 := Lib.hid (show cellOf (w5.alloc (.cells #[.bool s1, .slice p1 n1 c1, .bool s5, .slice p5 n5 c5] 35)) ⟨ob, 2, none⟩ = .slice p k c from cellOf_eq (HCL.out _ (HB5.out.alloc HB5.out.size _))); have HQ5 := Lib.hid (show IsS (f k) 1 w5 s1 p1 n1 c1 s5 p5 n5 c5 from ⟨HZ.out.keep HB5.out, hz5, HN1.out, by have := hz5.2.1; have h2 : nd (1 : Int).natAbs ≤ 1 := (by decide +kernel); omega⟩); clear hz5 hb5) | ((first | (refine step_app2 (W := w5) NotInt rfl (.tmp 18) (.tmp 26) _ 35 rfl Tryz.underlying24 ratInfo rfl (by decide) BB k (.slice p k c) xs [.bool s1, .slice p1 n1 c1, .bool s5, .slice p5 n5 c5] HV1.out (HKK.out _ HB5.out) rfl rfl (one4 _ _ _ _ _ _ _ _) (by omega) (by omega) (Nat.le_trans HMT.out.hB HB5.out.size) (ni4 _ _ _ _ _ _ _ _) niz ?_) | (refine step_app2 (W := w5) NotInt rfl (.tmp 18) (.tmp 26) _ 35 rfl Tryz.underlying24 ratInfo rfl (by decide) BB k (.slice p k c) xs [.bool s1, .slice p1 n1 c1, .bool s5, .slice p5 n5 c5] HV2.out (HKK.out _ HB5.out) rfl rfl (one4 _ _ _ _ _ _ _ _) (by omega) (by omega) (Nat.le_trans HMT.out.hB HB5.out.size) (ni4 _ _ _ _ _ _ _ _) niz ?_) | (refine step_app2 (W := w5) NotInt rfl (.tmp 18) (.tmp 26) _ 35 rfl Tryz.underlying24 ratInfo rfl (by decide) BB k (.slice p k c) xs [.bool s1, .slice p1 n1 c1, .bool s5, .slice p5 n5 c5] HV3.out (HKK.out _ HB5.out) rfl rfl (one4 _ _ _ _ _ _ _ _) (by omega) (by omega) (Nat.le_trans HMT.out.hB HB5.out.size) (ni4 _ _ _ _ _ _ _ _) niz ?_)); intro v9 w9 hown9 hgr9 hat9; obtain ⟨p9, c9, rfl⟩ := own_slice hown9.1; have HFX := Lib.hid (show we.cell? ⟨bm, 2, none⟩ = some (.slice (some ⟨g, o, none⟩) n cap) ∧ we.cell? ⟨g, o + k * 2, none⟩ = some (.bool s1) ∧ we.cell? ⟨g, o + k * 2 + 1, none⟩ = some (.slice p1 n1 c1) from ⟨(HS1.out _ (Below.refl _ we)).1, (HS1.out _ (Below.refl _ we)).2.1, (HS1.out _ (Below.refl _ we)).2.2.1⟩); have HO9 := Lib.hid (OwnQ.push (F := fun j => IsS (f j) 1) (W := w5) HGS.out (HKK.out _ HB5.out) (HXK.out _ HB5.out) HQ5.out hown9 hgr9); obtain ⟨d2, df, hm9⟩ := MatAt.more HGS.out (HMT.out.keep HGS.out HB5.out) (HCL.out _ HB5.out) (HKK.out _ HB5.out).1 HO9.out hgr9; have HM9 := Lib.hid hm9; have hb9 : Below BB we w9 := own_below (HB5.out.mono HMT.out.hB) (HKK.out _ HB5.out).1 hgr9 (Nat.le_refl _) (Nat.le_trans HMT.out.hB HB5.out.size); have HSP := Lib.hid (show (w9.cell? ⟨bm, 2, none⟩ = some (.slice (some ⟨g, o, none⟩) n cap) ∧ w9.cell? ⟨g, o + k * 2, none⟩ = some (.bool s1) ∧ w9.cell? ⟨g, o + k * 2 + 1, none⟩ = some (.slice p1 n1 c1) ∧ w9.cell? ⟨ob, 2, none⟩ = some (cellOf w9 ⟨ob, 2, none⟩) ∧ w9.frozen? ⟨ob, 2, none⟩ = false) from ⟨(hb9.cell (p := ⟨bm, 2, none⟩) (by have := HMT.out.lt; have := HORD.out; show bm < BB; omega)).trans HFX.out.1, (hb9.cell (p := ⟨g, o + k * 2, none⟩) (by have := HMT.out.lt; have := HORD.out; show g < BB; omega)).trans HFX.out.2.1, (hb9.cell (p := ⟨g, o + k * 2 + 1, none⟩) (by have := HMT.out.lt; have := HORD.out; show g < BB; omega)).trans HFX.out.2.2, cellOf_some (by rw [d2]; rfl), df⟩); have HSQ := Lib.hid (show ((w9.setCell ⟨ob, 2, none⟩ (.slice p9 (k + 1) c9)).cell? ⟨bm, 2, none⟩ = some (.slice (some ⟨g, o, none⟩) n cap) ∧ (w9.setCell ⟨ob, 2, none⟩ (.slice p9 (k + 1) c9)).cell? ⟨g, o + k * 2, none⟩ = some (.bool s1) ∧ (w9.setCell ⟨ob, 2, none⟩ (.slice p9 (k + 1) c9)).cell? ⟨g, o + k * 2 + 1, none⟩ = some (.slice p1 n1 c1) ∧ (w9.setCell ⟨ob, 2, none⟩ (.slice p9 (k + 1) c9)).cell? ⟨ob, 2, none⟩ = some (cellOf (w9.setCell ⟨ob, 2, none⟩ (.slice p9 (k + 1) c9)) ⟨ob, 2, none⟩) ∧ (w9.setCell ⟨ob, 2, none⟩ (.slice p9 (k + 1) c9)).frozen? ⟨ob, 2, none⟩ = false) from ⟨by rw [World.cell?_setCell_far _ _ _ _ (show ob ≠ bm from fun e => HGO.out.2 e.symm)]; exact HSP.out.1, by rw [World.cell?_setCell_far _ _ _ _ (show ob ≠ g from fun e => HGO.out.1 e.symm)]; exact HSP.out.2.1, by rw [World.cell?_setCell_far _ _ _ _ (show ob ≠ g from fun e => HGO.out.1 e.symm)]; exact HSP.out.2.2.1, cellOf_some (some_put (by rw [d2]; rfl)), frozen_set df⟩); have HG9 := Lib.hid ((grown_own (HGW.out.trans (but_below ob HB5.out)) hgr9 HBB.out.symm (fun b hb => own_ge (HKK.out _ HB5.out).1 hb.symm)).trans (but_put w9 ob 2 (.slice p9 (k + 1) c9))); clear hown9 hgr9 hat9 hb9 hm9)); (first | done | with_reducible refine hK.out _ _ ?_ (fun hHeld4 => ?_) | (go_wp2_with fail; with_reducible refine hK.out _ _ ?_ (fun hHeld4 => ?_))))
      focus ((try dsimp only); (first | with_reducible exact hS0 | with_reducible exact HSF.out | with_reducible exact HSA.out | with_reducible exact HSP.out | with_reducible exact HSQ.out))
      focus (clear hK K hHeld3; (try simp only [Act.put, List.setIfInBounds_toArray, List.set_cons_zero, List.set_cons_succ]))
      refine wpAnyH_take (i := 11) (v := ?_) rfl (by kernel_rfl) (by kernel_rfl) (by kernel_rfl) (fun _ _ _ h => h) (Or.inl ⟨by rfl, ?_⟩) (by assumption) ?_
      rotate_left
      focus (intro w hSw; (try dsimp only at hSw); go_simp; (try with_reducible rfl))
      focus (try simp only [Act.put, List.setIfInBounds_toArray, List.set_cons_zero, List.set_cons_succ])
      refine wpAnyH_ready (rs := [12]) (by kernel_rfl) (by simp) ?_
      refine AllReadyH.cons rfl (fun K hK => ?_) ?_
      focus (go_simp; refine hK.out _ _ ?_ (fun hHeld5 => ?_))
      focus ((try dsimp only); (first | with_reducible exact hS0 | with_reducible exact HSF.out | with_reducible exact HSA.out | with_reducible exact HSP.out | with_reducible exact HSQ.out))
      focus (clear hK K hHeld4; (try simp only [Act.put, List.setIfInBounds_toArray, List.set_cons_zero, List.set_cons_succ]))
      focus (refine wpAnyH_done (by kernel_rfl) ?_ _)
      rotate_left
      exact AllReadyH.nil
      exact AllReadyH.nil
      exact AllReadyH.nil
      exact AllReadyH.nil
      refine AllReadyH.cons rfl (fun K hK => ?_) ?_
      focus (go_simp; (first | (go_at_call 74; (with_reducible refine (HZ1.out _).mono ?_); rintro e w5 ⟨⟨s5, p5, n5, c5, rfl, hz5⟩, hb5⟩; have HB5 := Lib.hid (HK1.out _ hb5); have HSF := Lib.hid (HS1.out _ HB5.out); have HSA := Lib.hid (HS1.out _ (HB5.out.alloc HB5.out.size (.cells #[.bool s1, .slice p1 n1 c1, .bool s5, .slice p5 n5 c5] 35))); have HV2 := Lib.hid (show cellOf w5 ⟨ob, 2, none⟩ = .slice p k c from cellOf_eq (HCL.out _ HB5.out)); have HV3 := Lib.hid (show cellOf (w5.alloc (.cells #[.bool s1, .slice p1 n1 c1, .bool s5, .slice p5 n5 c5] 35)) ⟨ob, 2, none⟩ = .slice p k c from cellOf_eq (HCL.out _ (HB5.out.alloc HB5.out.size _))); have HQ5 := Lib.hid (show IsS (f k) 1 w5 s1 p1 n1 c1 s5 p5 n5 c5 from ⟨HZ.out.keep HB5.out, hz5, HN1.out, by have := hz5.2.1; have h2 : nd (1 : Int).natAbs ≤ 1 := (by decide +kernel); omega⟩); clear hz5 hb5) | ((first | (refine step_app2 (W := w5) NotInt rfl (.tmp 18) (.tmp 26) _ 35 rfl Tryz.underlying24 ratInfo rfl (by decide) BB k (.slice p k c) xs [.bool s1, .slice p1 n1 c1, .bool s5, .slice p5 n5 c5] HV1.out (HKK.out _ HB5.out) rfl rfl (one4 _ _ _ _ _ _ _ _) (by omega) (by omega) (Nat.le_trans HMT.out.hB HB5.out.size) (ni4 _ _ _ _ _ _ _ _) niz ?_) | (refine step_app2 (W := w5) NotInt rfl (.tmp 18) (.tmp 26) _ 35 rfl Tryz.underlying24 ratInfo rfl (by decide) BB k (.slice p k c) xs [.bool s1, .slice p1 n1 c1, .bool s5, .slice p5 n5 c5] HV2.out (HKK.out _ HB5.out) rfl rfl (one4 _ _ _ _ _ _ _ _) (by omega) (by omega) (Nat.le_trans HMT.out.hB HB5.out.size) (ni4 _ _ _ _ _ _ _ _) niz ?_) | (refine step_app2 (W := w5) NotInt rfl (.tmp 18) (.tmp 26) _ 35 rfl Tryz.underlying24 ratInfo rfl (by decide) BB k (.slice p k c) xs [.bool s1, .slice p1 n1 c1, .bool s5, .slice p5 n5 c5] HV3.out (HKK.out _ HB5.out) rfl rfl (one4 _ _ _ _ _ _ _ _) (by omega) (by omega) (Nat.le_trans HMT.out.hB HB5.out.size) (ni4 _ _ _ _ _ _ _ _) niz ?_)); intro v9 w9 hown9 hgr9 hat9; obtain ⟨p9, c9, rfl⟩ := own_slice hown9.1; have HFX := Lib.hid (show we.cell? ⟨bm, 2, none⟩ = some (.slice (some ⟨g, o, none⟩) n cap) ∧ we.cell? ⟨g, o + k * 2, none⟩ = some (.bool s1) ∧ we.cell? ⟨g, o + k * 2 + 1, none⟩ = some (.slice p1 n1 c1) from ⟨(HS1.out _ (Below.refl _ we)).1, (HS1.out _ (Below.refl _ we)).2.1, (HS1.out _ (Below.refl _ we)).2.2.1⟩); have HO9 := Lib.hid (OwnQ.push (F := fun j => IsS (f j) 1) (W := w5) HGS.out (HKK.out _ HB5.out) (HXK.out _ HB5.out) HQ5.out hown9 hgr9); obtain ⟨d2, df, hm9⟩ := MatAt.more HGS.out (HMT.out.keep HGS.out HB5.out) (HCL.out _ HB5.out) (HKK.out _ HB5.out).1 HO9.out hgr9; have HM9 := Lib.hid hm9; have hb9 : Below BB we w9 := own_below (HB5.out.mono HMT.out.hB) (HKK.out _ HB5.out).1 hgr9 (Nat.le_refl _) (Nat.le_trans HMT.out.hB HB5.out.size); have HSP := Lib.hid (show (w9.cell? ⟨bm, 2, none⟩ = some (.slice (some ⟨g, o, none⟩) n cap) ∧ w9.cell? ⟨g, o + k * 2, none⟩ = some (.bool s1) ∧ w9.cell? ⟨g, o + k * 2 + 1, none⟩ = some (.slice p1 n1 c1) ∧ w9.cell? ⟨ob, 2, none⟩ = some (cellOf w9 ⟨ob, 2, none⟩) ∧ w9.frozen? ⟨ob, 2, none⟩ = false) from ⟨(hb9.cell (p := ⟨bm, 2, none⟩) (by have := HMT.out.lt; have := HORD.out; show bm < BB; omega)).trans HFX.out.1, (hb9.cell (p := ⟨g, o + k * 2, none⟩) (by have := HMT.out.lt; have := HORD.out; show g < BB; omega)).trans HFX.out.2.1, (hb9.cell (p := ⟨g, o + k * 2 + 1, none⟩) (by have := HMT.out.lt; have := HORD.out; show g < BB; omega)).trans HFX.out.2.2, cellOf_some (by rw [d2]; rfl), df⟩); have HSQ := Lib.hid (show ((w9.setCell ⟨ob, 2, none⟩ (.slice p9 (k + 1) c9)).cell? ⟨bm, 2, none⟩ = some (.slice (some ⟨g, o, none⟩) n cap) ∧ (w9.setCell ⟨ob, 2, none⟩ (.slice p9 (k + 1) c9)).cell? ⟨g, o + k * 2, none⟩ = some (.bool s1) ∧ (w9.setCell ⟨ob, 2, none⟩ (.slice p9 (k + 1) c9)).cell? ⟨g, o + k * 2 + 1, none⟩ = some (.slice p1 n1 c1) ∧ (w9.setCell ⟨ob, 2, none⟩ (.slice p9 (k + 1) c9)).cell? ⟨ob, 2, none⟩ = some (cellOf (w9.setCell ⟨ob, 2, none⟩ (.slice p9 (k + 1) c9)) ⟨ob, 2, none⟩) ∧ (w9.setCell ⟨ob, 2, none⟩ (.slice p9 (k + 1) c9)).frozen? ⟨ob, 2, none⟩ = false) from ⟨by rw [World.cell?_setCell_far _ _ _ _ (show ob ≠ bm from fun e => HGO.out.2 e.symm)]; exact HSP.out.1, by rw [World.cell?_setCell_far _ _ _ _ (show ob ≠ g from fun e => HGO.out.1 e.symm)]; exact HSP.out.2.1, by rw [World.cell?_setCell_far _ _ _ _ (show ob ≠ g from fun e => HGO.out.1 e.symm)]; exact HSP.out.2.2.1, cellOf_some (some_put (by rw [d2]; rfl)), frozen_set df⟩); have HG9 := Lib.hid ((grown_own (HGW.out.trans (but_below ob HB5.out)) hgr9 HBB.out.symm (fun b hb => own_ge (HKK.out _ HB5.out).1 hb.symm)).trans (but_put w9 ob 2 (.slice p9 (k + 1) c9))); clear hown9 hgr9 hat9 hb9 hm9)); (first | done | with_reducible refine hK.out _ _ ?_ (fun hHeld1 => ?_) | (go_wp2_with fail; with_reducible refine hK.out _ _ ?_ (fun hHeld1 => ?_))))
      focus ((try dsimp only); (first | with_reducible exact hS0 | with_reducible exact HSF.out | with_reducible exact HSA.out | with_reducible exact HSP.out | with_reducible exact HSQ.out))
      focus (clear hK K hHeld0; (try simp only [Act.put, List.setIfInBounds_toArray, List.set_cons_zero, List.set_cons_succ]))
      refine wpAnyH_take (i := 8) (v := ?_) rfl (by kernel_rfl) (by kernel_rfl) (by kernel_rfl) (fun _ _ _ h => h) (Or.inl ⟨by rfl, ?_⟩) (by assumption) ?_
      rotate_left
      focus (intro w hSw; (try dsimp only at hSw); go_simp; (try with_reducible rfl))
      focus (try simp only [Act.put, List.setIfInBounds_toArray, List.set_cons_zero, List.set_cons_succ])
      refine wpAnyH_ready (rs := [1, 9]) (by kernel_rfl) (by simp) ?_
      refine AllReadyH.cons rfl (fun K hK => ?_) ?_
      focus (go_simp; refine hK.out _ _ ?_ (fun hHeld2 => ?_))
      focus ((try dsimp only); (first | with_reducible exact hS0 | with_reducible exact HSF.out | with_reducible exact HSA.out | with_reducible exact HSP.out | with_reducible exact HSQ.out))
      focus (clear hK K hHeld1; (try simp only [Act.put, List.setIfInBounds_toArray, List.set_cons_zero, List.set_cons_succ]))
      refine wpAnyH_ready (rs := [9]) (by kernel_rfl) (by simp) ?_
      refine AllReadyH.cons rfl (fun K hK => ?_) ?_
      focus (go_simp; refine hK.out _ _ ?_ (fun hHeld3 => ?_))
      focus ((try dsimp only); (first | with_reducible exact hS0 | with_reducible exact HSF.out | with_reducible exact HSA.out | with_reducible exact HSP.out | with_reducible exact HSQ.out))
      focus (clear hK K hHeld2; (try simp only [Act.put, List.setIfInBounds_toArray, List.set_cons_zero, List.set_cons_succ]))
      refine wpAnyH_ready (rs := [10]) (by kernel_rfl) (by simp) ?_
      refine AllReadyH.cons rfl (fun K hK => ?_) ?_
      focus ((first | (go_at_call 74; (with_reducible refine (HZ1.out _).mono ?_); rintro e w5 ⟨⟨s5, p5, n5, c5, rfl, hz5⟩, hb5⟩; have HB5 := Lib.hid (HK1.out _ hb5); have HSF := Lib.hid (HS1.out _ HB5.out); have HSA := Lib.hid (HS1.out _ (HB5.out.alloc HB5.out.size (.cells #[.bool s1, .slice p1 n1 c1, .bool s5, .slice p5 n5 c5] 35))); have HV2 := Lib.hid (show cellOf w5 ⟨ob, 2, none⟩ = .slice p k c from cellOf_eq (HCL.out _ HB5.out)); have HV3 := Lib.hid (show cellOf (w5.alloc (.cells #[.bool s1, .slice p1 n1 c1, .bool s5, .slice p5 n5 c5] 35)) ⟨ob, 2, none⟩ = .slice p k c from cellOf_eq (HCL.out _ (HB5.out.alloc HB5.out.size _))); have HQ5 := Lib.hid (show IsS (f k) 1 w5 s1 p1 n1 c1 s5 p5 n5 c5 from ⟨HZ.out.keep HB5.out, hz5, HN1.out, by have := hz5.2.1; have h2 : nd (1 : Int).natAbs ≤ 1 := (by decide +kernel); omega⟩); clear hz5 hb5) | ((first | (refine step_app2 (W := w5) NotInt rfl (.tmp 18) (.tmp 26) _ 35 rfl Tryz.underlying24 ratInfo rfl (by decide) BB k (.slice p k c) xs [.bool s1, .slice p1 n1 c1, .bool s5, .slice p5 n5 c5] HV1.out (HKK.out _ HB5.out) rfl rfl (one4 _ _ _ _ _ _ _ _) (by omega) (by omega) (Nat.le_trans HMT.out.hB HB5.out.size) (ni4 _ _ _ _ _ _ _ _) niz ?_) | (refine step_app2 (W := w5) NotInt rfl (.tmp 18) (.tmp 26) _ 35 rfl Tryz.underlying24 ratInfo rfl (by decide) BB k (.slice p k c) xs [.bool s1, .slice p1 n1 c1, .bool s5, .slice p5 n5 c5] HV2.out (HKK.out _ HB5.out) rfl rfl (one4 _ _ _ _ _ _ _ _) (by omega) (by omega) (Nat.le_trans HMT.out.hB HB5.out.size) (ni4 _ _ _ _ _ _ _ _) niz ?_) | (refine step_app2 (W := w5) NotInt rfl (.tmp 18) (.tmp 26) _ 35 rfl Tryz.underlying24 ratInfo rfl (by decide) BB k (.slice p k c) xs [.bool s1, .slice p1 n1 c1, .bool s5, .slice p5 n5 c5] HV3.out (HKK.out _ HB5.out) rfl rfl (one4 _ _ _ _ _ _ _ _) (by omega) (by omega) (Nat.le_trans HMT.out.hB HB5.out.size) (ni4 _ _ _ _ _ _ _ _) niz ?_)); intro v9 w9 hown9 hgr9 hat9; obtain ⟨p9, c9, rfl⟩ := own_slice hown9.1; have HFX := Lib.hid (show we.cell? ⟨bm, 2, none⟩ = some (.slice (some ⟨g, o, none⟩) n cap) ∧ we.cell? ⟨g, o + k * 2, none⟩ = some (.bool s1) ∧ we.cell? ⟨g, o + k * 2 + 1, none⟩ = some (.slice p1 n1 c1) from ⟨(HS1.out _ (Below.refl _ we)).1, (HS1.out _ (Below.refl _ we)).2.1, (HS1.out _ (Below.refl _ we)).2.2.1⟩); have HO9 := Lib.hid (OwnQ.push (F := fun j => IsS (f j) 1) (W := w5) HGS.out (HKK.out _ HB5.out) (HXK.out _ HB5.out) HQ5.out hown9 hgr9); obtain ⟨d2, df, hm9⟩ := MatAt.more HGS.out (HMT.out.keep HGS.out HB5.out) (HCL.out _ HB5.out) (HKK.out _ HB5.out).1 HO9.out hgr9; have HM9 := Lib.hid hm9; have hb9 : Below BB we w9 := own_below (HB5.out.mono HMT.out.hB) (HKK.out _ HB5.out).1 hgr9 (Nat.le_refl _) (Nat.le_trans HMT.out.hB HB5.out.size); have HSP := Lib.hid (show (w9.cell? ⟨bm, 2, none⟩ = some (.slice (some ⟨g, o, none⟩) n cap) ∧ w9.cell? ⟨g, o + k * 2, none⟩ = some (.bool s1) ∧ w9.cell? ⟨g, o + k * 2 + 1, none⟩ = some (.slice p1 n1 c1) ∧ w9.cell? ⟨ob, 2, none⟩ = some (cellOf w9 ⟨ob, 2, none⟩) ∧ w9.frozen? ⟨ob, 2, none⟩ = false) from ⟨(hb9.cell (p := ⟨bm, 2, none⟩) (by have := HMT.out.lt; have := HORD.out; show bm < BB; omega)).trans HFX.out.1, (hb9.cell (p := ⟨g, o + k * 2, none⟩) (by have := HMT.out.lt; have := HORD.out; show g < BB; omega)).trans HFX.out.2.1, (hb9.cell (p := ⟨g, o + k * 2 + 1, none⟩) (by have := HMT.out.lt; have := HORD.out; show g < BB; omega)).trans HFX.out.2.2, cellOf_some (by rw [d2]; rfl), df⟩); have HSQ := Lib.hid (show ((w9.setCell ⟨ob, 2, none⟩ (.slice p9 (k + 1) c9)).cell? ⟨bm, 2, none⟩ = some (.slice (some ⟨g, o, none⟩) n cap) ∧ (w9.setCell ⟨ob, 2, none⟩ (.slice p9 (k + 1) c9)).cell? ⟨g, o + k * 2, none⟩ = some (.bool s1) ∧ (w9.setCell ⟨ob, 2, none⟩ (.slice p9 (k + 1) c9)).cell? ⟨g, o + k * 2 + 1, none⟩ = some (.slice p1 n1 c1) ∧ (w9.setCell ⟨ob, 2, none⟩ (.slice p9 (k + 1) c9)).cell? ⟨ob, 2, none⟩ = some (cellOf (w9.setCell ⟨ob, 2, none⟩ (.slice p9 (k + 1) c9)) ⟨ob, 2, none⟩) ∧ (w9.setCell ⟨ob, 2, none⟩ (.slice p9 (k + 1) c9)).frozen? ⟨ob, 2, none⟩ = false) from ⟨by rw [World.cell?_setCell_far _ _ _ _ (show ob ≠ bm from fun e => HGO.out.2 e.symm)]; exact HSP.out.1, by rw [World.cell?_setCell_far _ _ _ _ (show ob ≠ g from fun e => HGO.out.1 e.symm)]; exact HSP.out.2.1, by rw [World.cell?_setCell_far _ _ _ _ (show ob ≠ g from fun e => HGO.out.1 e.symm)]; exact HSP.out.2.2.1, cellOf_some (some_put (by rw [d2]; rfl)), frozen_set df⟩); have HG9 := Lib.hid ((grown_own (HGW.out.trans (but_below ob HB5.out)) hgr9 HBB.out.symm (fun b hb => own_ge (HKK.out _ HB5.out).1 hb.symm)).trans (but_put w9 ob 2 (.slice p9 (k + 1) c9))); clear hown9 hgr9 hat9 hb9 hm9)); (first | done | with_reducible refine hK.out _ _ ?_ (fun hHeld4 => ?_) | (go_wp2_with fail; with_reducible refine hK.out _ _ ?_ (fun hHeld4 => ?_))))
      focus ((try dsimp only); (first | with_reducible exact hS0 | with_reducible exact HSF.out | with_reducible exact HSA.out | with_reducible exact HSP.out | with_reducible exact HSQ.out))
      focus (clear hK K hHeld3; (try simp only [Act.put, List.setIfInBounds_toArray, List.set_cons_zero, List.set_cons_succ]))
      refine wpAnyH_take (i := 11) (v := ?_) rfl (by kernel_rfl) (by kernel_rfl) (by kernel_rfl) (fun _ _ _ h => h) (Or.inl ⟨by rfl, ?_⟩) (by assumption) ?_
      rotate_left
      focus (intro w hSw; (try dsimp only at hSw); go_simp; (try with_reducible rfl))
      focus (try simp only [Act.put, List.setIfInBounds_toArray, List.set_cons_zero, List.set_cons_succ])
      refine wpAnyH_ready (rs := [12]) (by kernel_rfl) (by simp) ?_
      refine AllReadyH.cons rfl (fun K hK => ?_) ?_
      focus (go_simp; refine hK.out _ _ ?_ (fun hHeld5 => ?_))
      focus ((try dsimp only); (first | with_reducible exact hS0 | with_reducible exact HSF.out | with_reducible exact HSA.out | with_reducible exact HSP.out | with_reducible exact HSQ.out))
      focus (clear hK K hHeld4; (try simp only [Act.put, List.setIfInBounds_toArray, List.set_cons_zero, List.set_cons_succ]))
      focus (refine wpAnyH_done (by kernel_rfl) ?_ _)
      rotate_left
      exact AllReadyH.nil
      exact AllReadyH.nil
      exact AllReadyH.nil
      refine AllReadyH.cons rfl (fun K hK => ?_) ?_
      focus (go_simp; refine hK.out _ _ ?_ (fun hHeld2 => ?_))
      focus ((try dsimp only); (first | with_reducible exact hS0 | with_reducible exact HSF.out | with_reducible exact HSA.out | with_reducible exact HSP.out | with_reducible exact HSQ.out))
      focus (clear hK K hHeld1; (try simp only [Act.put, List.setIfInBounds_toArray, List.set_cons_zero, List.set_cons_succ]))
      refine wpAnyH_ready (rs := [1]) (by kernel_rfl) (by simp) ?_
      refine AllReadyH.cons rfl (fun K hK => ?_) ?_
      focus (go_simp; refine hK.out _ _ ?_ (fun hHeld3 => ?_))
      focus ((try dsimp only); (first | with_reducible exact hS0 | with_reducible exact HSF.out | with_reducible exact HSA.out | with_reducible exact HSP.out | with_reducible exact HSQ.out))
      focus (clear hK K hHeld2; (try simp only [Act.put, List.setIfInBounds_toArray, List.set_cons_zero, List.set_cons_succ]))
      refine wpAnyH_ready (rs := [10]) (by kernel_rfl) (by simp) ?_
      refine AllReadyH.cons rfl (fun K hK => ?_) ?_
      focus ((first | (go_at_call 74; (with_reducible refine (HZ1.out _).mono ?_); rintro e w5 ⟨⟨s5, p5, n5, c5, rfl, hz5⟩, hb5⟩; have HB5 := Lib.hid (HK1.out _ hb5); have HSF := Lib.hid (HS1.out _ HB5.out); have HSA := Lib.hid (HS1.out _ (HB5.out.alloc HB5.out.size (.cells #[.bool s1, .slice p1 n1 c1, .bool s5, .slice p5 n5 c5] 35))); have HV2 := Lib.hid (show cellOf w5 ⟨ob, 2, none⟩ = .slice p k c from cellOf_eq (HCL.out _ HB5.out)); have HV3 := Lib.hid (show cellOf (w5.alloc (.cells #[.bool s1, .slice p1 n1 c1, .bool s5, .slice p5 n5 c5] 35)) ⟨ob, 2, none⟩ = .slice p k c from cellOf_eq (HCL.out _ (HB5.out.alloc HB5.out.size _))); have HQ5 := Lib.hid (show IsS (f k) 1 w5 s1 p1 n1 c1 s5 p5 n5 c5 from ⟨HZ.out.keep HB5.out, hz5, HN1.out, by have := hz5.2.1; have h2 : nd (1 : Int).natAbs ≤ 1 := (by decide +kernel); omega⟩); clear hz5 hb5) | ((first | (refine step_app2 (W := w5) NotInt rfl (.tmp 18) (.tmp 26) _ 35 rfl Tryz.underlying24 ratInfo rfl (by decide) BB k (.slice p k c) xs [.bool s1, .slice p1 n1 c1, .bool s5, .slice p5 n5 c5] HV1.out (HKK.out _ HB5.out) rfl rfl (one4 _ _ _ _ _ _ _ _) (by omega) (by omega) (Nat.le_trans HMT.out.hB HB5.out.size) (ni4 _ _ _ _ _ _ _ _) niz ?_) | (refine step_app2 (W := w5) NotInt rfl (.tmp 18) (.tmp 26) _ 35 rfl Tryz.underlying24 ratInfo rfl (by decide) BB k (.slice p k c) xs [.bool s1, .slice p1 n1 c1, .bool s5, .slice p5 n5 c5] HV2.out (HKK.out _ HB5.out) rfl rfl (one4 _ _ _ _ _ _ _ _) (by omega) (by omega) (Nat.le_trans HMT.out.hB HB5.out.size) (ni4 _ _ _ _ _ _ _ _) niz ?_) | (refine step_app2 (W := w5) NotInt rfl (.tmp 18) (.tmp 26) _ 35 rfl Tryz.underlying24 ratInfo rfl (by decide) BB k (.slice p k c) xs [.bool s1, .slice p1 n1 c1, .bool s5, .slice p5 n5 c5] HV3.out (HKK.out _ HB5.out) rfl rfl (one4 _ _ _ _ _ _ _ _) (by omega) (by omega) (Nat.le_trans HMT.out.hB HB5.out.size) (ni4 _ _ _ _ _ _ _ _) niz ?_)); intro v9 w9 hown9 hgr9 hat9; obtain ⟨p9, c9, rfl⟩ := own_slice hown9.1; have HFX := Lib.hid (show we.cell? ⟨bm, 2, none⟩ = some (.slice (some ⟨g, o, none⟩) n cap) ∧ we.cell? ⟨g, o + k * 2, none⟩ = some (.bool s1) ∧ we.cell? ⟨g, o + k * 2 + 1, none⟩ = some (.slice p1 n1 c1) from ⟨(HS1.out _ (Below.refl _ we)).1, (HS1.out _ (Below.refl _ we)).2.1, (HS1.out _ (Below.refl _ we)).2.2.1⟩); have HO9 := Lib.hid (OwnQ.push (F := fun j => IsS (f j) 1) (W := w5) HGS.out (HKK.out _ HB5.out) (HXK.out _ HB5.out) HQ5.out hown9 hgr9); obtain ⟨d2, df, hm9⟩ := MatAt.more HGS.out (HMT.out.keep HGS.out HB5.out) (HCL.out _ HB5.out) (HKK.out _ HB5.out).1 HO9.out hgr9; have HM9 := Lib.hid hm9; have hb9 : Below BB we w9 := own_below (HB5.out.mono HMT.out.hB) (HKK.out _ HB5.out).1 hgr9 (Nat.le_refl _) (Nat.le_trans HMT.out.hB HB5.out.size); have HSP := Lib.hid (show (w9.cell? ⟨bm, 2, none⟩ = some (.slice (some ⟨g, o, none⟩) n cap) ∧ w9.cell? ⟨g, o + k * 2, none⟩ = some (.bool s1) ∧ w9.cell? ⟨g, o + k * 2 + 1, none⟩ = some (.slice p1 n1 c1) ∧ w9.cell? ⟨ob, 2, none⟩ = some (cellOf w9 ⟨ob, 2, none⟩) ∧ w9.frozen? ⟨ob, 2, none⟩ = false) from ⟨(hb9.cell (p := ⟨bm, 2, none⟩) (by have := HMT.out.lt; have := HORD.out; show bm < BB; omega)).trans HFX.out.1, (hb9.cell (p := ⟨g, o + k * 2, none⟩) (by have := HMT.out.lt; have := HORD.out; show g < BB; omega)).trans HFX.out.2.1, (hb9.cell (p := ⟨g, o + k * 2 + 1, none⟩) (by have := HMT.out.lt; have := HORD.out; show g < BB; omega)).trans HFX.out.2.2, cellOf_some (by rw [d2]; rfl), df⟩); have HSQ := Lib.hid (show ((w9.setCell ⟨ob, 2, none⟩ (.slice p9 (k + 1) c9)).cell? ⟨bm, 2, none⟩ = some (.slice (some ⟨g, o, none⟩) n cap) ∧ (w9.setCell ⟨ob, 2, none⟩ (.slice p9 (k + 1) c9)).cell? ⟨g, o + k * 2, none⟩ = some (.bool s1) ∧ (w9.setCell ⟨ob, 2, none⟩ (.slice p9 (k + 1) c9)).cell? ⟨g, o + k * 2 + 1, none⟩ = some (.slice p1 n1 c1) ∧ (w9.setCell ⟨ob, 2, none⟩ (.slice p9 (k + 1) c9)).cell? ⟨ob, 2, none⟩ = some (cellOf (w9.setCell ⟨ob, 2, none⟩ (.slice p9 (k + 1) c9)) ⟨ob, 2, none⟩) ∧ (w9.setCell ⟨ob, 2, none⟩ (.slice p9 (k + 1) c9)).frozen? ⟨ob, 2, none⟩ = false) from ⟨by rw [World.cell?_setCell_far _ _ _ _ (show ob ≠ bm from fun e => HGO.out.2 e.symm)]; exact HSP.out.1, by rw [World.cell?_setCell_far _ _ _ _ (show ob ≠ g from fun e => HGO.out.1 e.symm)]; exact HSP.out.2.1, by rw [World.cell?_setCell_far _ _ _ _ (show ob ≠ g from fun e => HGO.out.1 e.symm)]; exact HSP.out.2.2.1, cellOf_some (some_put (by rw [d2]; rfl)), frozen_set df⟩); have HG9 := Lib.hid ((grown_own (HGW.out.trans (but_below ob HB5.out)) hgr9 HBB.out.symm (fun b hb => own_ge (HKK.out _ HB5.out).1 hb.symm)).trans (but_put w9 ob 2 (.slice p9 (k + 1) c9))); clear hown9 hgr9 hat9 hb9 hm9)); (first | done | with_reducible refine hK.out _ _ ?_ (fun hHeld4 => ?_) | (go_wp2_with fail; with_reducible refine hK.out _ _ ?_ (fun hHeld4 => ?_))))
      focus ((try dsimp only); (first | with_reducible exact hS0 | with_reducible exact HSF.out | with_reducible exact HSA.out | with_reducible exact HSP.out | with_reducible exact HSQ.out))
      focus (clear hK K hHeld3; (try simp only [Act.put, List.setIfInBounds_toArray, List.set_cons_zero, List.set_cons_succ]))
      refine wpAnyH_take (i := 11) (v := ?_) rfl (by kernel_rfl) (by kernel_rfl) (by kernel_rfl) (fun _ _ _ h => h) (Or.inl ⟨by rfl, ?_⟩) (by assumption) ?_
      rotate_left
      focus (intro w hSw; (try dsimp only at hSw); go_simp; (try with_reducible rfl))
      focus (try simp only [Act.put, List.setIfInBounds_toArray, List.set_cons_zero, List.set_cons_succ])
      refine wpAnyH_ready (rs := [12]) (by kernel_rfl) (by simp) ?_
      refine AllReadyH.cons rfl (fun K hK => ?_) ?_
      focus (go_simp; refine hK.out _ _ ?_ (fun hHeld5 => ?_))
      focus ((try dsimp only); (first | with_reducible exact hS0 | with_reducible exact HSF.out | with_reducible exact HSA.out | with_reducible exact HSP.out | with_reducible exact HSQ.out))
      focus (clear hK K hHeld4; (try simp only [Act.put, List.setIfInBounds_toArray, List.set_cons_zero, List.set_cons_succ]))
      focus (refine wpAnyH_done (by kernel_rfl) ?_ _)
      rotate_left
      exact AllReadyH.nil
      exact AllReadyH.nil
      exact AllReadyH.nil
      exact AllReadyH.nil
      exact AllReadyH.nil
      all_goals go_wp2
      all_goals go_roundw
      all_goals first
        | exact ⟨k + 1, by omega, by go_num, HM9.out, HG9.out⟩
        | (simp [intOf]; omega)
    · obtain rfl : n = k := by omega
      obtain ⟨p, c, g2, hOQ⟩ := HMT.out.c2
      have a0 := HMT.out.c0
      have a1 := HMT.out.c1
      have HCM := Lib.hid (c_CopyMatrixS R C (.slice p n c) n f (fun _ => 1) we hOQ.ql (by omega))
      have hgo : gr ≠ ob := by have := HORD.out; omega
      have x0 := HGW.out.cell (HX1.out.at_ 0 rfl) (fun e => by injection e with e; exact hgo e)
      have x1 := HGW.out.cell (HX1.out.at_ 1 rfl) (fun e => by injection e with e; exact hgo e)
      have x3 := HGW.out.cell (HX1.out.at_ 2 rfl) (fun e => by injection e with e; exact hgo e)
      have hblk := HGW.out.block gr (by rw [HBB.out]; have := HORD.out; have := HMT.out.lt; omega) (fun e => by injection e with e; exact hgo e)
      have HF0 := Lib.hid ((World.frozen?_of_block (a := ⟨gr, 0, none⟩) hblk).trans (HX1.out.free_ 0))
      have HF1 := Lib.hid ((World.frozen?_of_block (a := ⟨gr, 1, none⟩) hblk).trans (HX1.out.free_ 1))
      have HF2 := Lib.hid ((World.frozen?_of_block (a := ⟨gr, 2, none⟩) hblk).trans (HX1.out.free_ 2))
      have hstB : Stk NotU32 wx gr := Stk.of HX1.out (by intro v hv; simp at hv; rcases hv with rfl | rfl | rfl <;> exact fun _ h => by cases h)
      have HST := Lib.hid (show Stk NotU32 we gr from ⟨Nat.lt_of_lt_of_le hstB.1 HGW.out.size, fun i u hu => hstB.2 i u ((World.cell?_of_block (a := ⟨gr, i, none⟩) hblk).symm.trans hu)⟩)
      have HR := Lib.hid (And.intro x0 (And.intro x1 x3))
      have hgrl : gr < we.heap.size := HST.out.1
      clear x0 x1 x3 hblk hstB hOQ
      go_wp2_with fail
      refine HCM.out.mono ?_
      rintro e w7 ⟨⟨v7, rfl, ho7⟩, hb7⟩
      obtain ⟨p7, c7, rfl⟩ := ql_value ho7.ql
      have r0 := cell_next hb7 HR.out.1
      have r1 := cell_next hb7 HR.out.2.1
      have r2 := cell_next hb7 HR.out.2.2
      have f0 := frozen_keep hb7 (by rw [HR.out.1]; rfl) HF0.out
      have f1 := frozen_keep hb7 (by rw [HR.out.2.1]; rfl) HF1.out
      have f2 := frozen_keep hb7 (by rw [HR.out.2.2]; rfl) HF2.out
      have HE3 := Lib.hid (put3_at (w := w7) (R := gr) (v0 := .int .i64 (R : Int)) (v1 := .int .i64 (C : Int)) (v2 := .slice p7 n c7) (by rw [r0]; rfl) (by rw [r1]; rfl) (by rw [r2]; rfl))
      have HI3 := Lib.hid (put3_32 (HST.out.next hb7) (v0 := .int .i64 (R : Int)) (v1 := .int .i64 (C : Int)) (v2 := .slice p7 n c7) (fun _ h => by cases h) (fun _ h => by cases h))
      have HG3 := Lib.hid (((but_put w7 gr 0 (.int .i64 (R : Int))).trans (but_put _ gr 1 (.int .i64 (C : Int)))).trans (but_put _ gr 2 (.slice p7 n c7)))
      have HO7 := Lib.hid ho7
      have HB7 := Lib.hid (show Below bm w w7 from HBW.out.trans (hb7.mono (by have := HBW.out.size; have := HBE.out; omega)))
      clear ho7 hb7
      go_wp2
      have e0 := HE3.out.1
      have e1 := HE3.out.2.1
      have e2 := HE3.out.2.2
      try simp only [Exit.inBlock, Exit.then]
      refine bodyPost_ret (by simp [results, Tryz.results34, go_sem, e0, e1, e2]; try rfl) rfl ?_
      refine ⟨⟨_, rfl, ?_⟩, ?_⟩
      · exact ((HO7.out.box (fun _ => IsS.solid _ _) HI3.out HG3.out hgrl).base (by have := HBW.out.size; have := HBE.out; omega)).imp (fun j _ s p k c t q m d h => IsS.rat h)
      · have h9 := below_but HB7.out HG3.out (by have := HB7.out.size; have := HBE.out; omega) (show bm ≤ gr by have := HORD.out; omega)
        rw [← HBE.out] at h9
        exact h9
end Go.Proofs.YthikonjlgljikaaGreatDoor
