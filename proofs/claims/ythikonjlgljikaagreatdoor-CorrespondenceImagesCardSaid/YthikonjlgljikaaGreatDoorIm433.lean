/- Contract of halfplaneref40.times. Contract of halfplaneref40.Moved. -/
import Derived.Test.YthikonjlgljikaaGreatDoorIm432
namespace Go.Proofs.YthikonjlgljikaaGreatDoor
set_option linter.unusedSimpArgs false
open Go.RowKit

/-! The values -/
def tm (a b : Int) (f : Nat → Int) (k j : Nat) : Int := (if 0 < j ∧ j ≤ k then f (j - 1) * a else 0) + (if j < k then f j * b else 0)
def tm5 (a b : Int) (f : Nat → Int) (k j : Nat) : Int := if j = k then tm a b f k k + f k * b else tm a b f k j
theorem tm_zero (a b : Int) (f : Nat → Int) (j : Nat) : tm a b f 0 j = 0 := by
  unfold tm; rw [if_neg (by omega), if_neg (by omega)]; rfl
theorem tm5_far {a b : Int} {f : Nat → Int} {k j : Nat} (h : j ≠ k) : tm a b f k j = tm5 a b f k j := by unfold tm5; rw [if_neg h]
theorem tm5_at (a b : Int) (f : Nat → Int) (k : Nat) : tm5 a b f k k = tm a b f k k + f k * b := by unfold tm5; rw [if_pos rfl]
theorem tm_far {a b : Int} {f : Nat → Int} {k j : Nat} (h : j ≠ k + 1) : tm5 a b f k j = tm a b f (k + 1) j := by
  unfold tm5
  by_cases h1 : j = k
  · subst h1
    rw [if_pos rfl]
    unfold tm
    rw [if_neg (Nat.lt_irrefl j), if_pos (Nat.lt_succ_self j)]
    by_cases h2 : 0 < j
    · rw [if_pos ⟨h2, Nat.le_refl _⟩, if_pos ⟨h2, by omega⟩]; omega
    · rw [if_neg (by omega), if_neg (by omega)]; omega
  · rw [if_neg h1]
    unfold tm
    by_cases h2 : j < k
    · rw [if_pos h2, if_pos (show j < k + 1 by omega)]
      by_cases h3 : 0 < j
      · rw [if_pos ⟨h3, by omega⟩, if_pos ⟨h3, by omega⟩]
      · rw [if_neg (by omega), if_neg (by omega)]
    · rw [if_neg h2, if_neg (show ¬ j < k + 1 by omega), if_neg (by omega), if_neg (by omega)]
theorem tm_at (a b : Int) (f : Nat → Int) (k : Nat) : tm a b f (k + 1) (k + 1) = tm5 a b f k (k + 1) + f k * a := by
  unfold tm5
  rw [if_neg (by omega)]
  unfold tm
  rw [if_pos ⟨Nat.succ_pos k, Nat.le_refl _⟩, if_neg (Nat.lt_irrefl _), if_neg (show ¬ (0 < k + 1 ∧ k + 1 ≤ k) by omega), if_neg (show ¬ k + 1 < k by omega), Nat.add_sub_cancel]
  omega
theorem tm_all {a b : Int} {f : Nat → Int} {n j : Nat} (h : j ≤ n) (hz : f n = 0) : tm a b f n j = lin a b f j := by
  unfold tm lin
  by_cases h1 : 0 < j
  · rw [if_pos ⟨h1, h⟩, if_pos h1, Int.mul_comm]
    by_cases h2 : j < n
    · rw [if_pos h2, Int.mul_comm (f j)]
    · obtain rfl : j = n := by omega
      rw [if_neg h2, hz, Int.mul_zero]
  · rw [if_neg (by omega), if_neg h1]
    by_cases h2 : j < n
    · rw [if_pos h2, Int.mul_comm]
    · obtain rfl : j = n := by omega
      rw [if_neg h2, hz, Int.mul_zero]
theorem nd_mul1 {x a : Int} {K : Nat} (hx : nd x.natAbs ≤ K) (ha : nd a.natAbs ≤ 2) : nd (x * a).natAbs ≤ K + 2 := by
  rw [Int.natAbs_mul]; have := nd_mul x.natAbs a.natAbs; omega
theorem tm_size {a b : Int} {f : Nat → Int} {K : Nat} (hf : ∀ j, nd (f j).natAbs ≤ K) (ha : nd a.natAbs ≤ 2) (hb : nd b.natAbs ≤ 2) (k j : Nat) : nd (tm a b f k j).natAbs ≤ K + 3 := by
  unfold tm
  refine nd_add_int _ _ (K := K + 2) ?_ ?_
  · split
    · exact nd_mul1 (hf _) ha
    · simp [nd_zero]
  · split
    · exact nd_mul1 (hf _) hb
    · simp [nd_zero]
theorem tm5_size {a b : Int} {f : Nat → Int} {K : Nat} (hf : ∀ j, nd (f j).natAbs ≤ K) (ha : nd a.natAbs ≤ 2) (hb : nd b.natAbs ≤ 2) (k j : Nat) : nd (tm5 a b f k j).natAbs ≤ K + 4 := by
  unfold tm5
  split
  · refine nd_add_int _ _ (K := K + 3) (tm_size hf ha hb k k) ?_
    have := nd_mul1 (hf k) hb; omega
  · have := tm_size hf ha hb k j; omega
theorem intRow : (Tryz.prog.info? 3).map (fun i => (i.zero, i.size, i.bytes)) = some (some (.int .i64 0), 1, 8) := by kernel_rfl
theorem makeI (n : Nat) (h : n ≤ 1000000) (w : World) :
    (Instr.makeSlice 49 (.int .i64 (n : Int)) (.int .i64 (n : Int))).run Tryz.prog w = .ok (.slice (some ⟨w.heap.size, 0, none⟩) n n) (w.alloc (.cells (madeCells #[.int .i64 0] n) 3)) :=
  run_make_row' 49 3 (.int .i64 0) 8 Tryz.underlying49 intRow rfl .i64 .i64 n (by omega) (by omega) w
theorem ZE.but {z : Int} {w w' : World} {g g' i : Nat} (hs : Sts w g) (h : w.grownBy w' (some g)) (hne : g' ≠ g) (hq : ZE z w g' i) : ZE z w' g' i := by
  obtain ⟨s, p, n, c, h0, h1, h4⟩ := hq
  have hk : ∀ j v, w.cell? ⟨g', j, none⟩ = some v → w'.cell? ⟨g', j, none⟩ = some v := fun j v e => h.cell e (fun e2 => by injection e2 with e2; exact hne e2)
  exact ⟨s, p, n, c, hk _ _ h0, hk _ _ h1, h4.i32 (I32.but hs h)⟩
/-- The two cells of an integer, as they are read. -/
def Cells2 (w : World) (g i : Nat) (s : Bool) (p : Option Addr) (n c : Nat) : Prop := w.cell? ⟨g, i, none⟩ = some (.bool s) ∧ w.cell? ⟨g, i + 1, none⟩ = some (.slice p n c)
theorem Cells2.keep {w w' : World} {g i : Nat} {s : Bool} {p : Option Addr} {n c : Nat} (h : Cells2 w g i s p n c) (hb : Below w.heap.size w w') : Cells2 w' g i s p n c := by
  have hk : ∀ j v, w.cell? ⟨g, j, none⟩ = some v → w'.cell? ⟨g, j, none⟩ = some v := fun j v e => (hb.cell (p := ⟨g, j, none⟩) (World.block_lt_of_cell? w ⟨g, j, none⟩ e)).trans e
  exact ⟨hk _ _ h.1, hk _ _ h.2⟩
theorem but_put2 (w : World) (g i j : Nat) (v0 v1 : Value) : w.grownBy ((w.setCell ⟨g, i, none⟩ v0).setCell ⟨g, j, none⟩ v1) (some g) := (but_put w g i v0).trans (but_put _ g j v1)
set_option maxHeartbeats 4000000 in
set_option maxRecDepth 100000 in
theorem c_times40 (v : Value) (n : Nat) (f : Nat → Int) (a b : Int) (K : Nat) (w : World) (h : ZL f w v n) (h0 : 0 < n) (hn : n ≤ 1000) (ha : -1073741824 ≤ a) (ha' : a ≤ 1073741824) (hb : -1073741824 ≤ b) (hb' : b ≤ 1073741824) (hf : ∀ j, nd (f j).natAbs ≤ K) (hK : K ≤ 1000000) (hz : f n = 0) :
    Calls Tryz.prog 203 #[v, .int .i64 a, .int .i64 b] w fun e w' => (∃ g cap, e = .returned (.slice (some ⟨g, 0, none⟩) ((n + 1 : Nat)) cap) ∧ w.heap.size ≤ g ∧ ZRow (lin a b f) w' g (n + 1) (n + 1)) ∧ Below w.heap.size w w' := by
  obtain ⟨g1, o1, l1, rfl, hg1, r1⟩ := h.resolve_left (fun h => by omega)
  have HR := Lib.hid r1
  have HF := Lib.hid hf
  have HZ0 := Lib.hid hz
  have HNA := Lib.hid (nd64 ha ha')
  have HNB := Lib.hid (nd64 hb hb')
  have HZA := Lib.hid (fun w1 => c_Z a w1 (by omega) (by omega))
  have HZB := Lib.hid (fun w1 => c_Z b w1 (by omega) (by omega))
  obtain ⟨N, hN⟩ : ∃ N, n + 1 = N := ⟨_, rfl⟩
  have hNi : (n : Int) + 1 = (N : Nat) := by omega
  have hmk := makeI N (by omega)
  rw [hN]
  clear h r1 hf ha ha' hb hb' hz
  go_enter Tryz.func203, Tryz.ntmps203
  go_wp2_with fail
  have hrow := World.rowIs_made w (.int .i64 0) N 3
  obtain ⟨wn, hwn⟩ : ∃ wn, w.alloc (.cells (madeCells #[.int .i64 0] N) 3) = wn := ⟨_, rfl⟩
  rw [hwn] at hrow ⊢
  have hbn : Below w.heap.size w wn := hwn ▸ (Below.refl _ _).alloc (Nat.le_refl _) _
  have HBN := Lib.hid hbn
  have HZS := Lib.hid (c_Zs w.heap.size N N (fun _ => 0) wn hrow.lt (fun j hj => hrow.cell hj) (fun _ _ => by omega) (by omega))
  clear hrow hbn hwn
  refine HZS.out.mono ?_
  rintro e w2 ⟨⟨v2, rfl, ho⟩, hb2⟩
  obtain ⟨g, cap, rfl, hgB, hro⟩ := ho.row.resolve_left (fun h => by omega)
  have HBW2 := Lib.hid (HBN.out.trans (hb2.mono HBN.out.size))
  have hgw : w.heap.size ≤ g := Nat.le_trans HBN.out.size hgB
  have HR2 := Lib.hid (fun j (hj : j < n) => ZE.keep (HR.out j hj) HBW2.out)
  have HST := Lib.hid hro.sts
  have HRO := Lib.hid (hro.congr (f' := tm a b f 0) (fun j _ => (tm_zero a b f j).symm))
  have hg1l : g1 < g := by omega
  clear hb2 ho HR HZS HBN hgB hro
  go_wp2
  go_loopw [8] (fun i wr => ∃ k : Nat, k ≤ n ∧ i = .int .i64 k ∧ ZRow (tm a b f k) wr g N N ∧ w2.grownBy wr (some g)) (fun i _ => n - (intOf i).toNat)
  case atStart => exact ⟨0, Nat.zero_le _, rfl, HRO.out, but_below g (Below.refl _ _)⟩
  case round =>
    obtain ⟨k, hk, rfl, hrow, hbu⟩ := hrel
    have HROW := Lib.hid hrow
    have HBU := Lib.hid hbu
    have HBW := Lib.hid (below_but HBW2.out hbu HBW2.out.size hgw)
    by_cases hlt : k < n
    · obtain ⟨s', p', i', c', a0, a1, hx⟩ := (HR2.out k hlt).but HST.out hbu (by omega)
      have HXE := Lib.hid hx
      obtain ⟨s5, p5, n5, c5, e0, e1, hy⟩ := hrow.val k (by omega)
      have HYE := Lib.hid hy
      have HEE := Lib.hid (show Cells2 wr g (k * 2) s5 p5 n5 c5 from ⟨e0, e1⟩)
      have HEE1 := Lib.hid (show Cells2 wr.drew g (k * 2) s5 p5 n5 c5 from ⟨e0, e1⟩)
      have HZC := HZB
      have hki : (k : Int) < (n : Int) := by omega
      have hkN : (k : Int) < (N : Int) := by omega
      have hra := hrow
      clear hrow hbu hx hy e0 e1
      go_upto_region 5 with (fail)
      go_cut [] from 20 to 34 (fun wd => ZRow (tm5 a b f k) wd g N N ∧ w2.grownBy wd (some g))
      case first =>
        have hS1 : wr.cell? ⟨g1, o1 + k * 2, none⟩ = some (.bool s') ∧ wr.cell? ⟨g1, o1 + k * 2 + 1, none⟩ = some (.slice p' i' c') ∧ wr.cell? ⟨g, k * 2, none⟩ = some (cellOf wr ⟨g, k * 2, none⟩) ∧ wr.frozen? ⟨g, k * 2, none⟩ = false ∧ Sts wr (g) ∧ wr.cell? ⟨g, k * 2 + 1, none⟩ = some (cellOf wr ⟨g, k * 2 + 1, none⟩) ∧ wr.frozen? ⟨g, k * 2 + 1, none⟩ = false ∧ Sts wr (g) ∧ Below w.heap.size w wr ∧ w.heap.size ≤ wr.heap.size := ⟨a0, a1, cellOf_some (hra.has _ (by omega)), hra.free _ (by omega), hra.sts, cellOf_some (hra.has _ (by omega)), hra.free _ (by omega), hra.sts, HBW.out, Below.size (show Below w.heap.size w wr from HBW.out)⟩
        have hS0 : wr.drew.cell? ⟨g1, o1 + k * 2, none⟩ = some (.bool s') ∧ wr.drew.cell? ⟨g1, o1 + k * 2 + 1, none⟩ = some (.slice p' i' c') ∧ wr.drew.cell? ⟨g, k * 2, none⟩ = some (cellOf wr.drew ⟨g, k * 2, none⟩) ∧ wr.drew.frozen? ⟨g, k * 2, none⟩ = false ∧ Sts wr.drew (g) ∧ wr.drew.cell? ⟨g, k * 2 + 1, none⟩ = some (cellOf wr.drew ⟨g, k * 2 + 1, none⟩) ∧ wr.drew.frozen? ⟨g, k * 2 + 1, none⟩ = false ∧ Sts wr.drew (g) ∧ Below w.heap.size w wr.drew ∧ w.heap.size ≤ wr.drew.heap.size := S2_2_next (Below.refl _ wr).drew hS1
        clear a0 a1 hra hS1
        have M1 : True := trivial
        refine wp_region_held_drew (S := (fun w1 => w1.cell? ⟨g1, o1 + k * 2, none⟩ = some (.bool s') ∧ w1.cell? ⟨g1, o1 + k * 2 + 1, none⟩ = some (.slice p' i' c') ∧ w1.cell? ⟨g, k * 2, none⟩ = some (cellOf w1 ⟨g, k * 2, none⟩) ∧ w1.frozen? ⟨g, k * 2, none⟩ = false ∧ Sts w1 (g) ∧ w1.cell? ⟨g, k * 2 + 1, none⟩ = some (cellOf w1 ⟨g, k * 2 + 1, none⟩) ∧ w1.frozen? ⟨g, k * 2 + 1, none⟩ = false ∧ Sts w1 (g) ∧ Below w.heap.size w w1 ∧ w.heap.size ≤ w1.heap.size)) (by kernel_rfl) ?_ (fun hHeld0 => ?_)
        focus ((try dsimp only); (first | with_reducible exact hS0 | with_reducible assumption | (refine S2_2_next (by with_reducible assumption) ?_; assumption) | (refine S2_2_put ?_ ?_ ?_ ?_ ?_ ?_ ?_ ?_ ?_ <;> first | assumption | exact NotInt.bool _ | exact NotInt.slice _ _ _ | (dsimp only; omega) | (simp; done))))
        refine wpAnyH_take (i := 0) (v := ?_) rfl (by kernel_rfl) (by kernel_rfl) (by kernel_rfl) (fun _ _ _ h => h) (Or.inl ⟨by rfl, ?_⟩) (by assumption) ?_
        rotate_left
        focus (intro w hSw; (try dsimp only at hSw); go_simp; (try with_reducible rfl))
        focus (try simp only [Act.put, List.setIfInBounds_toArray, List.set_cons_zero, List.set_cons_succ])
        refine wpAnyH_take (i := 1) (v := ?_) rfl (by kernel_rfl) (by kernel_rfl) (by kernel_rfl) (fun _ _ _ h => h) (Or.inl ⟨by rfl, ?_⟩) (by assumption) ?_
        rotate_left
        focus (intro w hSw; (try dsimp only at hSw); go_simp; (try with_reducible rfl))
        focus (try simp only [Act.put, List.setIfInBounds_toArray, List.set_cons_zero, List.set_cons_succ])
        refine wpAnyH_take (i := 2) (v := ?_) rfl (by kernel_rfl) (by kernel_rfl) (by kernel_rfl) (fun _ _ _ h => h) (Or.inl ⟨by rfl, ?_⟩) (by assumption) ?_
        rotate_left
        focus (intro w hSw; (try dsimp only at hSw); go_simp; (try with_reducible rfl))
        focus (try simp only [Act.put, List.setIfInBounds_toArray, List.set_cons_zero, List.set_cons_succ])
        refine wpAnyH_take (i := 3) (v := ?_) rfl (by kernel_rfl) (by kernel_rfl) (by kernel_rfl) (fun _ _ _ h => h) (Or.inl ⟨by rfl, ?_⟩) (by assumption) ?_
        rotate_left
        focus (intro w hSw; (try dsimp only at hSw); go_simp; (try with_reducible rfl))
        focus (try simp only [Act.put, List.setIfInBounds_toArray, List.set_cons_zero, List.set_cons_succ])
        refine wpAnyH_take (i := 4) (v := ?_) rfl (by kernel_rfl) (by kernel_rfl) (by kernel_rfl) (fun _ _ _ h => h) (Or.inl ⟨by rfl, ?_⟩) (by assumption) ?_
        rotate_left
        focus (intro w hSw; (try dsimp only at hSw); go_simp; (try with_reducible rfl))
        focus (try simp only [Act.put, List.setIfInBounds_toArray, List.set_cons_zero, List.set_cons_succ])
        refine wpAnyH_take (i := 6) (v := ?_) rfl (by kernel_rfl) (by kernel_rfl) (by kernel_rfl) (fun _ _ _ h => h) (Or.inl ⟨by rfl, ?_⟩) (by assumption) ?_
        rotate_left
        focus (intro w hSw; (try dsimp only at hSw); go_simp; (try with_reducible rfl))
        focus (try simp only [Act.put, List.setIfInBounds_toArray, List.set_cons_zero, List.set_cons_succ])
        refine wpAnyH_take (i := 7) (v := ?_) rfl (by kernel_rfl) (by kernel_rfl) (by kernel_rfl) (fun _ _ _ h => h) (Or.inl ⟨by rfl, ?_⟩) (by assumption) ?_
        rotate_left
        focus (intro w hSw; (try dsimp only at hSw); go_simp; (try with_reducible rfl))
        focus (try simp only [Act.put, List.setIfInBounds_toArray, List.set_cons_zero, List.set_cons_succ])
        refine wpAnyH_take (i := 8) (v := ?_) rfl (by kernel_rfl) (by kernel_rfl) (by kernel_rfl) (fun _ _ _ h => h) (Or.inl ⟨by rfl, ?_⟩) (by assumption) ?_
        rotate_left
        focus (intro w hSw; (try dsimp only at hSw); go_simp; (try with_reducible rfl))
        focus (try simp only [Act.put, List.setIfInBounds_toArray, List.set_cons_zero, List.set_cons_succ])
        refine wpAnyH_take (i := 9) (v := ?_) rfl (by kernel_rfl) (by kernel_rfl) (by kernel_rfl) (fun _ _ _ h => h) (Or.inl ⟨by rfl, ?_⟩) (by assumption) ?_
        rotate_left
        focus (intro w hSw; (try dsimp only at hSw); go_simp; (try with_reducible rfl))
        focus (try simp only [Act.put, List.setIfInBounds_toArray, List.set_cons_zero, List.set_cons_succ])
        refine wpAnyH_take (i := 10) (v := ?_) rfl (by kernel_rfl) (by kernel_rfl) (by kernel_rfl) (fun _ _ _ h => h) (Or.inl ⟨by rfl, ?_⟩) (by assumption) ?_
        rotate_left
        focus (intro w hSw; (try dsimp only at hSw); go_simp; (try with_reducible rfl))
        focus (try simp only [Act.put, List.setIfInBounds_toArray, List.set_cons_zero, List.set_cons_succ])
        refine wpAnyH_ready (rs := [5, 11]) (by kernel_rfl) (by simp) ?_
        refine AllReadyH.cons rfl (fun K hK => ?_) ?_
        focus (go_simp; refine hK.out _ _ ?_ (fun hHeld1 => ?_))
        focus ((try dsimp only); (first | with_reducible exact hS0 | with_reducible assumption | (refine S2_2_next (by with_reducible assumption) ?_; assumption) | (refine S2_2_put ?_ ?_ ?_ ?_ ?_ ?_ ?_ ?_ ?_ <;> first | assumption | exact NotInt.bool _ | exact NotInt.slice _ _ _ | (dsimp only; omega) | (simp; done))))
        focus (clear hK K hHeld0; (try simp only [Act.put, List.setIfInBounds_toArray, List.set_cons_zero, List.set_cons_succ]))
        refine wpAnyH_ready (rs := [11]) (by kernel_rfl) (by simp) ?_
        refine AllReadyH.cons rfl (fun K hK => ?_) ?_
        focus (go_simp; (first | (go_at_call 74; refine (HZC.out _).mono ?_; rintro e w2 ⟨⟨s2, p2, n2, c2, rfl, hz2⟩, hb2⟩; have HB2 := Lib.hid (show Below wr.heap.size wr w2 from (by first | exact (Below.refl _ wr).drew.trans hb2 | exact hb2)); have HZ2 := Lib.hid hz2; have HEE2 := Lib.hid (HEE.out.keep HB2.out); clear hz2) | (go_at_call 98; refine (c_rMul s' p' i' c' (f k) s2 p2 n2 c2 b _ (HXE.out.keep HB2.out).raw HZ2.out.raw (by rw [← HXE.out.2.1]; have := HF.out k; omega) (by rw [← HZ2.out.2.1]; have := HNB.out; omega)).mono ?_; rintro e w3 ⟨⟨s3, p3, n3, c3, rfl, hz3⟩, hb3⟩; have HB3 := Lib.hid (HB2.out.trans (hb3.mono HB2.out.size)); have HZ3 := Lib.hid hz3; have HEE3 := Lib.hid (HEE.out.keep HB3.out); clear hz3 hb2) | (go_at_call 117; (first | rw [cellOf_eq HEE1.out.1, cellOf_eq HEE1.out.2] | rw [cellOf_eq HEE3.out.1, cellOf_eq HEE3.out.2] | rw [cellOf_eq HEE2.out.1, cellOf_eq HEE2.out.2]); refine (c_rAdd s5 p5 n5 c5 (tm a b f k k) s3 p3 n3 c3 (f k * b) _ (HYE.out.keep HB3.out).raw HZ3.out.raw (by rw [← HYE.out.2.1]; have := tm_size HF.out HNA.out HNB.out k k; omega) (by rw [← HZ3.out.2.1]; have := nd_mul1 (HF.out k) (HNB.out); omega)).mono ?_; rintro e w4 ⟨⟨s6, p6, n6, c6, rfl, hz6⟩, hb6⟩; have hbe : Below wr.heap.size wr w4 := HB3.out.trans (hb6.mono HB3.out.size); have HQA3 := Lib.hid (ZRow.set (k' := N) (HROW.out.keep hbe) k (by omega) (tm5 a b f k) (fun j hj hne => And.intro hj (tm5_far hne)) (show Zs w4 s6 p6 n6 c6 (tm5 a b f k k) by rw [tm5_at]; exact hz6)); have HGR := Lib.hid (HBU.out.trans (but_below g hbe)); have HBF := Lib.hid (HBW.out.trans (hbe.mono HBW.out.size)); clear hz6 hbe hb3)); (first | done | with_reducible refine hK.out _ _ ?_ (fun hHeld2 => ?_) | (go_wp2_with fail; with_reducible refine hK.out _ _ ?_ (fun hHeld2 => ?_))))
        focus ((try dsimp only); (first | with_reducible exact hS0 | with_reducible assumption | (refine S2_2_next (by with_reducible assumption) ?_; assumption) | (refine S2_2_put ?_ ?_ ?_ ?_ ?_ ?_ ?_ ?_ ?_ <;> first | assumption | exact NotInt.bool _ | exact NotInt.slice _ _ _ | (dsimp only; omega) | (simp; done))))
        focus (clear hK K hHeld1; (try simp only [Act.put, List.setIfInBounds_toArray, List.set_cons_zero, List.set_cons_succ]))
        refine wpAnyH_ready (rs := [12]) (by kernel_rfl) (by simp) ?_
        refine AllReadyH.cons rfl (fun K hK => ?_) ?_
        focus (go_simp; (first | (go_at_call 74; refine (HZC.out _).mono ?_; rintro e w2 ⟨⟨s2, p2, n2, c2, rfl, hz2⟩, hb2⟩; have HB2 := Lib.hid (show Below wr.heap.size wr w2 from (by first | exact (Below.refl _ wr).drew.trans hb2 | exact hb2)); have HZ2 := Lib.hid hz2; have HEE2 := Lib.hid (HEE.out.keep HB2.out); clear hz2) | (go_at_call 98; refine (c_rMul s' p' i' c' (f k) s2 p2 n2 c2 b _ (HXE.out.keep HB2.out).raw HZ2.out.raw (by rw [← HXE.out.2.1]; have := HF.out k; omega) (by rw [← HZ2.out.2.1]; have := HNB.out; omega)).mono ?_; rintro e w3 ⟨⟨s3, p3, n3, c3, rfl, hz3⟩, hb3⟩; have HB3 := Lib.hid (HB2.out.trans (hb3.mono HB2.out.size)); have HZ3 := Lib.hid hz3; have HEE3 := Lib.hid (HEE.out.keep HB3.out); clear hz3 hb2) | (go_at_call 117; (first | rw [cellOf_eq HEE1.out.1, cellOf_eq HEE1.out.2] | rw [cellOf_eq HEE3.out.1, cellOf_eq HEE3.out.2] | rw [cellOf_eq HEE2.out.1, cellOf_eq HEE2.out.2]); refine (c_rAdd s5 p5 n5 c5 (tm a b f k k) s3 p3 n3 c3 (f k * b) _ (HYE.out.keep HB3.out).raw HZ3.out.raw (by rw [← HYE.out.2.1]; have := tm_size HF.out HNA.out HNB.out k k; omega) (by rw [← HZ3.out.2.1]; have := nd_mul1 (HF.out k) (HNB.out); omega)).mono ?_; rintro e w4 ⟨⟨s6, p6, n6, c6, rfl, hz6⟩, hb6⟩; have hbe : Below wr.heap.size wr w4 := HB3.out.trans (hb6.mono HB3.out.size); have HQA3 := Lib.hid (ZRow.set (k' := N) (HROW.out.keep hbe) k (by omega) (tm5 a b f k) (fun j hj hne => And.intro hj (tm5_far hne)) (show Zs w4 s6 p6 n6 c6 (tm5 a b f k k) by rw [tm5_at]; exact hz6)); have HGR := Lib.hid (HBU.out.trans (but_below g hbe)); have HBF := Lib.hid (HBW.out.trans (hbe.mono HBW.out.size)); clear hz6 hbe hb3)); (first | done | with_reducible refine hK.out _ _ ?_ (fun hHeld3 => ?_) | (go_wp2_with fail; with_reducible refine hK.out _ _ ?_ (fun hHeld3 => ?_))))
        focus ((try dsimp only); (first | with_reducible exact hS0 | with_reducible assumption | (refine S2_2_next (by with_reducible assumption) ?_; assumption) | (refine S2_2_put ?_ ?_ ?_ ?_ ?_ ?_ ?_ ?_ ?_ <;> first | assumption | exact NotInt.bool _ | exact NotInt.slice _ _ _ | (dsimp only; omega) | (simp; done))))
        focus (clear hK K hHeld2; (try simp only [Act.put, List.setIfInBounds_toArray, List.set_cons_zero, List.set_cons_succ]))
        refine wpAnyH_ready (rs := [13]) (by kernel_rfl) (by simp) ?_
        refine AllReadyH.cons rfl (fun K hK => ?_) ?_
        focus (go_simp; (first | (go_at_call 74; refine (HZC.out _).mono ?_; rintro e w2 ⟨⟨s2, p2, n2, c2, rfl, hz2⟩, hb2⟩; have HB2 := Lib.hid (show Below wr.heap.size wr w2 from (by first | exact (Below.refl _ wr).drew.trans hb2 | exact hb2)); have HZ2 := Lib.hid hz2; have HEE2 := Lib.hid (HEE.out.keep HB2.out); clear hz2) | (go_at_call 98; refine (c_rMul s' p' i' c' (f k) s2 p2 n2 c2 b _ (HXE.out.keep HB2.out).raw HZ2.out.raw (by rw [← HXE.out.2.1]; have := HF.out k; omega) (by rw [← HZ2.out.2.1]; have := HNB.out; omega)).mono ?_; rintro e w3 ⟨⟨s3, p3, n3, c3, rfl, hz3⟩, hb3⟩; have HB3 := Lib.hid (HB2.out.trans (hb3.mono HB2.out.size)); have HZ3 := Lib.hid hz3; have HEE3 := Lib.hid (HEE.out.keep HB3.out); clear hz3 hb2) | (go_at_call 117; (first | rw [cellOf_eq HEE1.out.1, cellOf_eq HEE1.out.2] | rw [cellOf_eq HEE3.out.1, cellOf_eq HEE3.out.2] | rw [cellOf_eq HEE2.out.1, cellOf_eq HEE2.out.2]); refine (c_rAdd s5 p5 n5 c5 (tm a b f k k) s3 p3 n3 c3 (f k * b) _ (HYE.out.keep HB3.out).raw HZ3.out.raw (by rw [← HYE.out.2.1]; have := tm_size HF.out HNA.out HNB.out k k; omega) (by rw [← HZ3.out.2.1]; have := nd_mul1 (HF.out k) (HNB.out); omega)).mono ?_; rintro e w4 ⟨⟨s6, p6, n6, c6, rfl, hz6⟩, hb6⟩; have hbe : Below wr.heap.size wr w4 := HB3.out.trans (hb6.mono HB3.out.size); have HQA3 := Lib.hid (ZRow.set (k' := N) (HROW.out.keep hbe) k (by omega) (tm5 a b f k) (fun j hj hne => And.intro hj (tm5_far hne)) (show Zs w4 s6 p6 n6 c6 (tm5 a b f k k) by rw [tm5_at]; exact hz6)); have HGR := Lib.hid (HBU.out.trans (but_below g hbe)); have HBF := Lib.hid (HBW.out.trans (hbe.mono HBW.out.size)); clear hz6 hbe hb3)); (first | done | with_reducible refine hK.out _ _ ?_ (fun hHeld4 => ?_) | (go_wp2_with fail; with_reducible refine hK.out _ _ ?_ (fun hHeld4 => ?_))))
        focus ((try dsimp only); (first | with_reducible exact hS0 | with_reducible assumption | (refine S2_2_next (by with_reducible assumption) ?_; assumption) | (refine S2_2_put ?_ ?_ ?_ ?_ ?_ ?_ ?_ ?_ ?_ <;> first | assumption | exact NotInt.bool _ | exact NotInt.slice _ _ _ | (dsimp only; omega) | (simp; done))))
        focus (clear hK K hHeld3; (try simp only [Act.put, List.setIfInBounds_toArray, List.set_cons_zero, List.set_cons_succ]))
        refine wpAnyH_take (i := 14) (v := ?_) rfl (by kernel_rfl) (by kernel_rfl) (by kernel_rfl) (fun _ _ _ h => h) (Or.inl ⟨by rfl, ?_⟩) (by assumption) ?_
        rotate_left
        focus (intro w hSw; (try dsimp only at hSw); go_simp; (try with_reducible rfl))
        focus (try simp only [Act.put, List.setIfInBounds_toArray, List.set_cons_zero, List.set_cons_succ])
        refine wpAnyH_ready (rs := [15]) (by kernel_rfl) (by simp) ?_
        refine AllReadyH.cons rfl (fun K hK => ?_) ?_
        focus (go_simp; refine hK.out _ _ ?_ (fun hHeld5 => ?_))
        focus ((try dsimp only); (first | with_reducible exact hS0 | with_reducible assumption | (refine S2_2_next (by with_reducible assumption) ?_; assumption) | (refine S2_2_put ?_ ?_ ?_ ?_ ?_ ?_ ?_ ?_ ?_ <;> first | assumption | exact NotInt.bool _ | exact NotInt.slice _ _ _ | (dsimp only; omega) | (simp; done))))
        focus (clear hK K hHeld4; (try simp only [Act.put, List.setIfInBounds_toArray, List.set_cons_zero, List.set_cons_succ]))
        focus (refine wpAnyH_done (by kernel_rfl) ?_ _)
        rotate_left
        exact AllReadyH.nil
        exact AllReadyH.nil
        exact AllReadyH.nil
        exact AllReadyH.nil
        refine AllReadyH.cons rfl (fun K hK => ?_) ?_
        focus (go_simp; (first | (go_at_call 74; refine (HZC.out _).mono ?_; rintro e w2 ⟨⟨s2, p2, n2, c2, rfl, hz2⟩, hb2⟩; have HB2 := Lib.hid (show Below wr.heap.size wr w2 from (by first | exact (Below.refl _ wr).drew.trans hb2 | exact hb2)); have HZ2 := Lib.hid hz2; have HEE2 := Lib.hid (HEE.out.keep HB2.out); clear hz2) | (go_at_call 98; refine (c_rMul s' p' i' c' (f k) s2 p2 n2 c2 b _ (HXE.out.keep HB2.out).raw HZ2.out.raw (by rw [← HXE.out.2.1]; have := HF.out k; omega) (by rw [← HZ2.out.2.1]; have := HNB.out; omega)).mono ?_; rintro e w3 ⟨⟨s3, p3, n3, c3, rfl, hz3⟩, hb3⟩; have HB3 := Lib.hid (HB2.out.trans (hb3.mono HB2.out.size)); have HZ3 := Lib.hid hz3; have HEE3 := Lib.hid (HEE.out.keep HB3.out); clear hz3 hb2) | (go_at_call 117; (first | rw [cellOf_eq HEE1.out.1, cellOf_eq HEE1.out.2] | rw [cellOf_eq HEE3.out.1, cellOf_eq HEE3.out.2] | rw [cellOf_eq HEE2.out.1, cellOf_eq HEE2.out.2]); refine (c_rAdd s5 p5 n5 c5 (tm a b f k k) s3 p3 n3 c3 (f k * b) _ (HYE.out.keep HB3.out).raw HZ3.out.raw (by rw [← HYE.out.2.1]; have := tm_size HF.out HNA.out HNB.out k k; omega) (by rw [← HZ3.out.2.1]; have := nd_mul1 (HF.out k) (HNB.out); omega)).mono ?_; rintro e w4 ⟨⟨s6, p6, n6, c6, rfl, hz6⟩, hb6⟩; have hbe : Below wr.heap.size wr w4 := HB3.out.trans (hb6.mono HB3.out.size); have HQA3 := Lib.hid (ZRow.set (k' := N) (HROW.out.keep hbe) k (by omega) (tm5 a b f k) (fun j hj hne => And.intro hj (tm5_far hne)) (show Zs w4 s6 p6 n6 c6 (tm5 a b f k k) by rw [tm5_at]; exact hz6)); have HGR := Lib.hid (HBU.out.trans (but_below g hbe)); have HBF := Lib.hid (HBW.out.trans (hbe.mono HBW.out.size)); clear hz6 hbe hb3)); (first | done | with_reducible refine hK.out _ _ ?_ (fun hHeld1 => ?_) | (go_wp2_with fail; with_reducible refine hK.out _ _ ?_ (fun hHeld1 => ?_))))
        focus ((try dsimp only); (first | with_reducible exact hS0 | with_reducible assumption | (refine S2_2_next (by with_reducible assumption) ?_; assumption) | (refine S2_2_put ?_ ?_ ?_ ?_ ?_ ?_ ?_ ?_ ?_ <;> first | assumption | exact NotInt.bool _ | exact NotInt.slice _ _ _ | (dsimp only; omega) | (simp; done))))
        focus (clear hK K hHeld0; (try simp only [Act.put, List.setIfInBounds_toArray, List.set_cons_zero, List.set_cons_succ]))
        refine wpAnyH_ready (rs := [5, 12]) (by kernel_rfl) (by simp) ?_
        refine AllReadyH.cons rfl (fun K hK => ?_) ?_
        focus (go_simp; refine hK.out _ _ ?_ (fun hHeld2 => ?_))
        focus ((try dsimp only); (first | with_reducible exact hS0 | with_reducible assumption | (refine S2_2_next (by with_reducible assumption) ?_; assumption) | (refine S2_2_put ?_ ?_ ?_ ?_ ?_ ?_ ?_ ?_ ?_ <;> first | assumption | exact NotInt.bool _ | exact NotInt.slice _ _ _ | (dsimp only; omega) | (simp; done))))
        focus (clear hK K hHeld1; (try simp only [Act.put, List.setIfInBounds_toArray, List.set_cons_zero, List.set_cons_succ]))
        refine wpAnyH_ready (rs := [12]) (by kernel_rfl) (by simp) ?_
        refine AllReadyH.cons rfl (fun K hK => ?_) ?_
        focus (go_simp; (first | (go_at_call 74; refine (HZC.out _).mono ?_; rintro e w2 ⟨⟨s2, p2, n2, c2, rfl, hz2⟩, hb2⟩; have HB2 := Lib.hid (show Below wr.heap.size wr w2 from (by first | exact (Below.refl _ wr).drew.trans hb2 | exact hb2)); have HZ2 := Lib.hid hz2; have HEE2 := Lib.hid (HEE.out.keep HB2.out); clear hz2) | (go_at_call 98; refine (c_rMul s' p' i' c' (f k) s2 p2 n2 c2 b _ (HXE.out.keep HB2.out).raw HZ2.out.raw (by rw [← HXE.out.2.1]; have := HF.out k; omega) (by rw [← HZ2.out.2.1]; have := HNB.out; omega)).mono ?_; rintro e w3 ⟨⟨s3, p3, n3, c3, rfl, hz3⟩, hb3⟩; have HB3 := Lib.hid (HB2.out.trans (hb3.mono HB2.out.size)); have HZ3 := Lib.hid hz3; have HEE3 := Lib.hid (HEE.out.keep HB3.out); clear hz3 hb2) | (go_at_call 117; (first | rw [cellOf_eq HEE1.out.1, cellOf_eq HEE1.out.2] | rw [cellOf_eq HEE3.out.1, cellOf_eq HEE3.out.2] | rw [cellOf_eq HEE2.out.1, cellOf_eq HEE2.out.2]); refine (c_rAdd s5 p5 n5 c5 (tm a b f k k) s3 p3 n3 c3 (f k * b) _ (HYE.out.keep HB3.out).raw HZ3.out.raw (by rw [← HYE.out.2.1]; have := tm_size HF.out HNA.out HNB.out k k; omega) (by rw [← HZ3.out.2.1]; have := nd_mul1 (HF.out k) (HNB.out); omega)).mono ?_; rintro e w4 ⟨⟨s6, p6, n6, c6, rfl, hz6⟩, hb6⟩; have hbe : Below wr.heap.size wr w4 := HB3.out.trans (hb6.mono HB3.out.size); have HQA3 := Lib.hid (ZRow.set (k' := N) (HROW.out.keep hbe) k (by omega) (tm5 a b f k) (fun j hj hne => And.intro hj (tm5_far hne)) (show Zs w4 s6 p6 n6 c6 (tm5 a b f k k) by rw [tm5_at]; exact hz6)); have HGR := Lib.hid (HBU.out.trans (but_below g hbe)); have HBF := Lib.hid (HBW.out.trans (hbe.mono HBW.out.size)); clear hz6 hbe hb3)); (first | done | with_reducible refine hK.out _ _ ?_ (fun hHeld3 => ?_) | (go_wp2_with fail; with_reducible refine hK.out _ _ ?_ (fun hHeld3 => ?_))))
        focus ((try dsimp only); (first | with_reducible exact hS0 | with_reducible assumption | (refine S2_2_next (by with_reducible assumption) ?_; assumption) | (refine S2_2_put ?_ ?_ ?_ ?_ ?_ ?_ ?_ ?_ ?_ <;> first | assumption | exact NotInt.bool _ | exact NotInt.slice _ _ _ | (dsimp only; omega) | (simp; done))))
        focus (clear hK K hHeld2; (try simp only [Act.put, List.setIfInBounds_toArray, List.set_cons_zero, List.set_cons_succ]))
        refine wpAnyH_ready (rs := [13]) (by kernel_rfl) (by simp) ?_
        refine AllReadyH.cons rfl (fun K hK => ?_) ?_
        focus (go_simp; (first | (go_at_call 74; refine (HZC.out _).mono ?_; rintro e w2 ⟨⟨s2, p2, n2, c2, rfl, hz2⟩, hb2⟩; have HB2 := Lib.hid (show Below wr.heap.size wr w2 from (by first | exact (Below.refl _ wr).drew.trans hb2 | exact hb2)); have HZ2 := Lib.hid hz2; have HEE2 := Lib.hid (HEE.out.keep HB2.out); clear hz2) | (go_at_call 98; refine (c_rMul s' p' i' c' (f k) s2 p2 n2 c2 b _ (HXE.out.keep HB2.out).raw HZ2.out.raw (by rw [← HXE.out.2.1]; have := HF.out k; omega) (by rw [← HZ2.out.2.1]; have := HNB.out; omega)).mono ?_; rintro e w3 ⟨⟨s3, p3, n3, c3, rfl, hz3⟩, hb3⟩; have HB3 := Lib.hid (HB2.out.trans (hb3.mono HB2.out.size)); have HZ3 := Lib.hid hz3; have HEE3 := Lib.hid (HEE.out.keep HB3.out); clear hz3 hb2) | (go_at_call 117; (first | rw [cellOf_eq HEE1.out.1, cellOf_eq HEE1.out.2] | rw [cellOf_eq HEE3.out.1, cellOf_eq HEE3.out.2] | rw [cellOf_eq HEE2.out.1, cellOf_eq HEE2.out.2]); refine (c_rAdd s5 p5 n5 c5 (tm a b f k k) s3 p3 n3 c3 (f k * b) _ (HYE.out.keep HB3.out).raw HZ3.out.raw (by rw [← HYE.out.2.1]; have := tm_size HF.out HNA.out HNB.out k k; omega) (by rw [← HZ3.out.2.1]; have := nd_mul1 (HF.out k) (HNB.out); omega)).mono ?_; rintro e w4 ⟨⟨s6, p6, n6, c6, rfl, hz6⟩, hb6⟩; have hbe : Below wr.heap.size wr w4 := HB3.out.trans (hb6.mono HB3.out.size); have HQA3 := Lib.hid (ZRow.set (k' := N) (HROW.out.keep hbe) k (by omega) (tm5 a b f k) (fun j hj hne => And.intro hj (tm5_far hne)) (show Zs w4 s6 p6 n6 c6 (tm5 a b f k k) by rw [tm5_at]; exact hz6)); have HGR := Lib.hid (HBU.out.trans (but_below g hbe)); have HBF := Lib.hid (HBW.out.trans (hbe.mono HBW.out.size)); clear hz6 hbe hb3)); (first | done | with_reducible refine hK.out _ _ ?_ (fun hHeld4 => ?_) | (go_wp2_with fail; with_reducible refine hK.out _ _ ?_ (fun hHeld4 => ?_))))
        focus ((try dsimp only); (first | with_reducible exact hS0 | with_reducible assumption | (refine S2_2_next (by with_reducible assumption) ?_; assumption) | (refine S2_2_put ?_ ?_ ?_ ?_ ?_ ?_ ?_ ?_ ?_ <;> first | assumption | exact NotInt.bool _ | exact NotInt.slice _ _ _ | (dsimp only; omega) | (simp; done))))
        focus (clear hK K hHeld3; (try simp only [Act.put, List.setIfInBounds_toArray, List.set_cons_zero, List.set_cons_succ]))
        refine wpAnyH_take (i := 14) (v := ?_) rfl (by kernel_rfl) (by kernel_rfl) (by kernel_rfl) (fun _ _ _ h => h) (Or.inl ⟨by rfl, ?_⟩) (by assumption) ?_
        rotate_left
        focus (intro w hSw; (try dsimp only at hSw); go_simp; (try with_reducible rfl))
        focus (try simp only [Act.put, List.setIfInBounds_toArray, List.set_cons_zero, List.set_cons_succ])
        refine wpAnyH_ready (rs := [15]) (by kernel_rfl) (by simp) ?_
        refine AllReadyH.cons rfl (fun K hK => ?_) ?_
        focus (go_simp; refine hK.out _ _ ?_ (fun hHeld5 => ?_))
        focus ((try dsimp only); (first | with_reducible exact hS0 | with_reducible assumption | (refine S2_2_next (by with_reducible assumption) ?_; assumption) | (refine S2_2_put ?_ ?_ ?_ ?_ ?_ ?_ ?_ ?_ ?_ <;> first | assumption | exact NotInt.bool _ | exact NotInt.slice _ _ _ | (dsimp only; omega) | (simp; done))))
        focus (clear hK K hHeld4; (try simp only [Act.put, List.setIfInBounds_toArray, List.set_cons_zero, List.set_cons_succ]))
        focus (refine wpAnyH_done (by kernel_rfl) ?_ _)
        rotate_left
        exact AllReadyH.nil
        exact AllReadyH.nil
        exact AllReadyH.nil
        refine AllReadyH.cons rfl (fun K hK => ?_) ?_
        focus (go_simp; (first | (go_at_call 74; refine (HZC.out _).mono ?_; rintro e w2 ⟨⟨s2, p2, n2, c2, rfl, hz2⟩, hb2⟩; have HB2 := Lib.hid (show Below wr.heap.size wr w2 from (by first | exact (Below.refl _ wr).drew.trans hb2 | exact hb2)); have HZ2 := Lib.hid hz2; have HEE2 := Lib.hid (HEE.out.keep HB2.out); clear hz2) | (go_at_call 98; refine (c_rMul s' p' i' c' (f k) s2 p2 n2 c2 b _ (HXE.out.keep HB2.out).raw HZ2.out.raw (by rw [← HXE.out.2.1]; have := HF.out k; omega) (by rw [← HZ2.out.2.1]; have := HNB.out; omega)).mono ?_; rintro e w3 ⟨⟨s3, p3, n3, c3, rfl, hz3⟩, hb3⟩; have HB3 := Lib.hid (HB2.out.trans (hb3.mono HB2.out.size)); have HZ3 := Lib.hid hz3; have HEE3 := Lib.hid (HEE.out.keep HB3.out); clear hz3 hb2) | (go_at_call 117; (first | rw [cellOf_eq HEE1.out.1, cellOf_eq HEE1.out.2] | rw [cellOf_eq HEE3.out.1, cellOf_eq HEE3.out.2] | rw [cellOf_eq HEE2.out.1, cellOf_eq HEE2.out.2]); refine (c_rAdd s5 p5 n5 c5 (tm a b f k k) s3 p3 n3 c3 (f k * b) _ (HYE.out.keep HB3.out).raw HZ3.out.raw (by rw [← HYE.out.2.1]; have := tm_size HF.out HNA.out HNB.out k k; omega) (by rw [← HZ3.out.2.1]; have := nd_mul1 (HF.out k) (HNB.out); omega)).mono ?_; rintro e w4 ⟨⟨s6, p6, n6, c6, rfl, hz6⟩, hb6⟩; have hbe : Below wr.heap.size wr w4 := HB3.out.trans (hb6.mono HB3.out.size); have HQA3 := Lib.hid (ZRow.set (k' := N) (HROW.out.keep hbe) k (by omega) (tm5 a b f k) (fun j hj hne => And.intro hj (tm5_far hne)) (show Zs w4 s6 p6 n6 c6 (tm5 a b f k k) by rw [tm5_at]; exact hz6)); have HGR := Lib.hid (HBU.out.trans (but_below g hbe)); have HBF := Lib.hid (HBW.out.trans (hbe.mono HBW.out.size)); clear hz6 hbe hb3)); (first | done | with_reducible refine hK.out _ _ ?_ (fun hHeld2 => ?_) | (go_wp2_with fail; with_reducible refine hK.out _ _ ?_ (fun hHeld2 => ?_))))
        focus ((try dsimp only); (first | with_reducible exact hS0 | with_reducible assumption | (refine S2_2_next (by with_reducible assumption) ?_; assumption) | (refine S2_2_put ?_ ?_ ?_ ?_ ?_ ?_ ?_ ?_ ?_ <;> first | assumption | exact NotInt.bool _ | exact NotInt.slice _ _ _ | (dsimp only; omega) | (simp; done))))
        focus (clear hK K hHeld1; (try simp only [Act.put, List.setIfInBounds_toArray, List.set_cons_zero, List.set_cons_succ]))
        refine wpAnyH_ready (rs := [5]) (by kernel_rfl) (by simp) ?_
        refine AllReadyH.cons rfl (fun K hK => ?_) ?_
        focus (go_simp; refine hK.out _ _ ?_ (fun hHeld3 => ?_))
        focus ((try dsimp only); (first | with_reducible exact hS0 | with_reducible assumption | (refine S2_2_next (by with_reducible assumption) ?_; assumption) | (refine S2_2_put ?_ ?_ ?_ ?_ ?_ ?_ ?_ ?_ ?_ <;> first | assumption | exact NotInt.bool _ | exact NotInt.slice _ _ _ | (dsimp only; omega) | (simp; done))))
        focus (clear hK K hHeld2; (try simp only [Act.put, List.setIfInBounds_toArray, List.set_cons_zero, List.set_cons_succ]))
        refine wpAnyH_ready (rs := [13]) (by kernel_rfl) (by simp) ?_
        refine AllReadyH.cons rfl (fun K hK => ?_) ?_
        focus (go_simp; (first | (go_at_call 74; refine (HZC.out _).mono ?_; rintro e w2 ⟨⟨s2, p2, n2, c2, rfl, hz2⟩, hb2⟩; have HB2 := Lib.hid (show Below wr.heap.size wr w2 from (by first | exact (Below.refl _ wr).drew.trans hb2 | exact hb2)); have HZ2 := Lib.hid hz2; have HEE2 := Lib.hid (HEE.out.keep HB2.out); clear hz2) | (go_at_call 98; refine (c_rMul s' p' i' c' (f k) s2 p2 n2 c2 b _ (HXE.out.keep HB2.out).raw HZ2.out.raw (by rw [← HXE.out.2.1]; have := HF.out k; omega) (by rw [← HZ2.out.2.1]; have := HNB.out; omega)).mono ?_; rintro e w3 ⟨⟨s3, p3, n3, c3, rfl, hz3⟩, hb3⟩; have HB3 := Lib.hid (HB2.out.trans (hb3.mono HB2.out.size)); have HZ3 := Lib.hid hz3; have HEE3 := Lib.hid (HEE.out.keep HB3.out); clear hz3 hb2) | (go_at_call 117; (first | rw [cellOf_eq HEE1.out.1, cellOf_eq HEE1.out.2] | rw [cellOf_eq HEE3.out.1, cellOf_eq HEE3.out.2] | rw [cellOf_eq HEE2.out.1, cellOf_eq HEE2.out.2]); refine (c_rAdd s5 p5 n5 c5 (tm a b f k k) s3 p3 n3 c3 (f k * b) _ (HYE.out.keep HB3.out).raw HZ3.out.raw (by rw [← HYE.out.2.1]; have := tm_size HF.out HNA.out HNB.out k k; omega) (by rw [← HZ3.out.2.1]; have := nd_mul1 (HF.out k) (HNB.out); omega)).mono ?_; rintro e w4 ⟨⟨s6, p6, n6, c6, rfl, hz6⟩, hb6⟩; have hbe : Below wr.heap.size wr w4 := HB3.out.trans (hb6.mono HB3.out.size); have HQA3 := Lib.hid (ZRow.set (k' := N) (HROW.out.keep hbe) k (by omega) (tm5 a b f k) (fun j hj hne => And.intro hj (tm5_far hne)) (show Zs w4 s6 p6 n6 c6 (tm5 a b f k k) by rw [tm5_at]; exact hz6)); have HGR := Lib.hid (HBU.out.trans (but_below g hbe)); have HBF := Lib.hid (HBW.out.trans (hbe.mono HBW.out.size)); clear hz6 hbe hb3)); (first | done | with_reducible refine hK.out _ _ ?_ (fun hHeld4 => ?_) | (go_wp2_with fail; with_reducible refine hK.out _ _ ?_ (fun hHeld4 => ?_))))
        focus ((try dsimp only); (first | with_reducible exact hS0 | with_reducible assumption | (refine S2_2_next (by with_reducible assumption) ?_; assumption) | (refine S2_2_put ?_ ?_ ?_ ?_ ?_ ?_ ?_ ?_ ?_ <;> first | assumption | exact NotInt.bool _ | exact NotInt.slice _ _ _ | (dsimp only; omega) | (simp; done))))
        focus (clear hK K hHeld3; (try simp only [Act.put, List.setIfInBounds_toArray, List.set_cons_zero, List.set_cons_succ]))
        refine wpAnyH_take (i := 14) (v := ?_) rfl (by kernel_rfl) (by kernel_rfl) (by kernel_rfl) (fun _ _ _ h => h) (Or.inl ⟨by rfl, ?_⟩) (by assumption) ?_
        rotate_left
        focus (intro w hSw; (try dsimp only at hSw); go_simp; (try with_reducible rfl))
        focus (try simp only [Act.put, List.setIfInBounds_toArray, List.set_cons_zero, List.set_cons_succ])
        refine wpAnyH_ready (rs := [15]) (by kernel_rfl) (by simp) ?_
        refine AllReadyH.cons rfl (fun K hK => ?_) ?_
        focus (go_simp; refine hK.out _ _ ?_ (fun hHeld5 => ?_))
        focus ((try dsimp only); (first | with_reducible exact hS0 | with_reducible assumption | (refine S2_2_next (by with_reducible assumption) ?_; assumption) | (refine S2_2_put ?_ ?_ ?_ ?_ ?_ ?_ ?_ ?_ ?_ <;> first | assumption | exact NotInt.bool _ | exact NotInt.slice _ _ _ | (dsimp only; omega) | (simp; done))))
        focus (clear hK K hHeld4; (try simp only [Act.put, List.setIfInBounds_toArray, List.set_cons_zero, List.set_cons_succ]))
        focus (refine wpAnyH_done (by kernel_rfl) ?_ _)
        rotate_left
        exact AllReadyH.nil
        exact AllReadyH.nil
        exact AllReadyH.nil
        exact AllReadyH.nil
        exact AllReadyH.nil
        all_goals go_wp2
        all_goals go_meet
        all_goals exact ⟨HQA3.out, HGR.out.trans (but_put2 _ _ _ _ _ _)⟩
      case rest =>
        obtain ⟨hrow, hbu⟩ := hcut
        clear HROW HBU HBW HXE HYE HEE HEE1 HZC a0 a1 hra
        obtain ⟨wr, rfl⟩ : ∃ wr : World, wr = wc := ⟨_, rfl⟩
        have HROW := Lib.hid hrow
        have HBU := Lib.hid hbu
        have HBW := Lib.hid (below_but HBW2.out hbu HBW2.out.size hgw)
        obtain ⟨s', p', i', c', a0, a1, hx⟩ := (HR2.out k hlt).but HST.out hbu (by omega)
        have HXE := Lib.hid hx
        obtain ⟨k1, hk1⟩ : ∃ k1, k + 1 = k1 := ⟨_, rfl⟩
        obtain ⟨s5, p5, n5, c5, e0, e1, hy⟩ := hrow.val k1 (by omega)
        have HYE := Lib.hid hy
        have HEE := Lib.hid (show Cells2 wr g (k1 * 2) s5 p5 n5 c5 from ⟨e0, e1⟩)
        have HEE1 := Lib.hid (show Cells2 wr.drew g (k1 * 2) s5 p5 n5 c5 from ⟨e0, e1⟩)
        have HZC := HZA
        have hk1n : k1 < N := by omega
        have hki1 : (k1 : Int) < (N : Int) := by omega
        have hk1i : (k : Int) + 1 = (k1 : Nat) := by omega
        have hkw : IntKind.i64.wrap (k1 : Int) = (k1 : Nat) := IntWalk.i64_in _ (by omega)
        have HK1 := Lib.hid hk1
        have hra := hrow
        clear hrow hbu hx hy e0 e1 hk1
        go_upto_region 6 with (fail)
        have hS1 : wr.cell? ⟨g1, o1 + k * 2, none⟩ = some (.bool s') ∧ wr.cell? ⟨g1, o1 + k * 2 + 1, none⟩ = some (.slice p' i' c') ∧ wr.cell? ⟨g, k1 * 2, none⟩ = some (cellOf wr ⟨g, k1 * 2, none⟩) ∧ wr.frozen? ⟨g, k1 * 2, none⟩ = false ∧ Sts wr (g) ∧ wr.cell? ⟨g, k1 * 2 + 1, none⟩ = some (cellOf wr ⟨g, k1 * 2 + 1, none⟩) ∧ wr.frozen? ⟨g, k1 * 2 + 1, none⟩ = false ∧ Sts wr (g) ∧ Below w.heap.size w wr ∧ w.heap.size ≤ wr.heap.size := ⟨a0, a1, cellOf_some (hra.has _ (by omega)), hra.free _ (by omega), hra.sts, cellOf_some (hra.has _ (by omega)), hra.free _ (by omega), hra.sts, HBW.out, Below.size (show Below w.heap.size w wr from HBW.out)⟩
        have hS0 : wr.drew.cell? ⟨g1, o1 + k * 2, none⟩ = some (.bool s') ∧ wr.drew.cell? ⟨g1, o1 + k * 2 + 1, none⟩ = some (.slice p' i' c') ∧ wr.drew.cell? ⟨g, k1 * 2, none⟩ = some (cellOf wr.drew ⟨g, k1 * 2, none⟩) ∧ wr.drew.frozen? ⟨g, k1 * 2, none⟩ = false ∧ Sts wr.drew (g) ∧ wr.drew.cell? ⟨g, k1 * 2 + 1, none⟩ = some (cellOf wr.drew ⟨g, k1 * 2 + 1, none⟩) ∧ wr.drew.frozen? ⟨g, k1 * 2 + 1, none⟩ = false ∧ Sts wr.drew (g) ∧ Below w.heap.size w wr.drew ∧ w.heap.size ≤ wr.drew.heap.size := S2_2_next (Below.refl _ wr).drew hS1
        clear a0 a1 hra hS1
        have M1 : True := trivial
        refine wp_region_held_drew (S := (fun w1 => w1.cell? ⟨g1, o1 + k * 2, none⟩ = some (.bool s') ∧ w1.cell? ⟨g1, o1 + k * 2 + 1, none⟩ = some (.slice p' i' c') ∧ w1.cell? ⟨g, k1 * 2, none⟩ = some (cellOf w1 ⟨g, k1 * 2, none⟩) ∧ w1.frozen? ⟨g, k1 * 2, none⟩ = false ∧ Sts w1 (g) ∧ w1.cell? ⟨g, k1 * 2 + 1, none⟩ = some (cellOf w1 ⟨g, k1 * 2 + 1, none⟩) ∧ w1.frozen? ⟨g, k1 * 2 + 1, none⟩ = false ∧ Sts w1 (g) ∧ Below w.heap.size w w1 ∧ w.heap.size ≤ w1.heap.size)) (by kernel_rfl) ?_ (fun hHeld0 => ?_)
        focus ((try dsimp only); (first | with_reducible exact hS0 | with_reducible assumption | (refine S2_2_next (by with_reducible assumption) ?_; assumption) | (refine S2_2_put ?_ ?_ ?_ ?_ ?_ ?_ ?_ ?_ ?_ <;> first | assumption | exact NotInt.bool _ | exact NotInt.slice _ _ _ | (dsimp only; omega) | (simp; done))))
        refine wpAnyH_take (i := 0) (v := ?_) rfl (by kernel_rfl) (by kernel_rfl) (by kernel_rfl) (fun _ _ _ h => h) (Or.inl ⟨by rfl, ?_⟩) (by assumption) ?_
        rotate_left
        focus (intro w hSw; (try dsimp only at hSw); go_simp; (try with_reducible rfl))
        focus (try simp only [Act.put, List.setIfInBounds_toArray, List.set_cons_zero, List.set_cons_succ])
        refine wpAnyH_take (i := 1) (v := ?_) rfl (by kernel_rfl) (by kernel_rfl) (by kernel_rfl) (fun _ _ _ h => h) (Or.inl ⟨by rfl, ?_⟩) (by assumption) ?_
        rotate_left
        focus (intro w hSw; (try dsimp only at hSw); go_simp; (try with_reducible rfl))
        focus (try simp only [Act.put, List.setIfInBounds_toArray, List.set_cons_zero, List.set_cons_succ])
        refine wpAnyH_take (i := 2) (v := ?_) rfl (by kernel_rfl) (by kernel_rfl) (by kernel_rfl) (fun _ _ _ h => h) (Or.inl ⟨by rfl, ?_⟩) (by assumption) ?_
        rotate_left
        focus (intro w hSw; (try dsimp only at hSw); go_simp; (try with_reducible rfl))
        focus (try simp only [Act.put, List.setIfInBounds_toArray, List.set_cons_zero, List.set_cons_succ])
        refine wpAnyH_take (i := 3) (v := ?_) rfl (by kernel_rfl) (by kernel_rfl) (by kernel_rfl) (fun _ _ _ h => h) (Or.inl ⟨by rfl, ?_⟩) (by assumption) ?_
        rotate_left
        focus (intro w hSw; (try dsimp only at hSw); go_simp; (try with_reducible rfl))
        focus (try simp only [Act.put, List.setIfInBounds_toArray, List.set_cons_zero, List.set_cons_succ])
        refine wpAnyH_take (i := 4) (v := ?_) rfl (by kernel_rfl) (by kernel_rfl) (by kernel_rfl) (fun _ _ _ h => h) (Or.inl ⟨by rfl, ?_⟩) (by assumption) ?_
        rotate_left
        focus (intro w hSw; (try dsimp only at hSw); go_simp; (try with_reducible rfl))
        focus (try simp only [Act.put, List.setIfInBounds_toArray, List.set_cons_zero, List.set_cons_succ])
        refine wpAnyH_take (i := 5) (v := ?_) rfl (by kernel_rfl) (by kernel_rfl) (by kernel_rfl) (fun _ _ _ h => h) (Or.inl ⟨by rfl, ?_⟩) (by assumption) ?_
        rotate_left
        focus (intro w hSw; (try dsimp only at hSw); go_simp; (try with_reducible rfl))
        focus (try simp only [Act.put, List.setIfInBounds_toArray, List.set_cons_zero, List.set_cons_succ])
        refine wpAnyH_take (i := 6) (v := ?_) rfl (by kernel_rfl) (by kernel_rfl) (by kernel_rfl) (fun _ _ _ h => h) (Or.inl ⟨by rfl, ?_⟩) (by assumption) ?_
        rotate_left
        focus (intro w hSw; (try dsimp only at hSw); go_simp; (try with_reducible rfl))
        focus (try simp only [Act.put, List.setIfInBounds_toArray, List.set_cons_zero, List.set_cons_succ])
        refine wpAnyH_take (i := 8) (v := ?_) rfl (by kernel_rfl) (by kernel_rfl) (by kernel_rfl) (fun _ _ _ h => h) (Or.inl ⟨by rfl, ?_⟩) (by assumption) ?_
        rotate_left
        focus (intro w hSw; (try dsimp only at hSw); go_simp; (try with_reducible rfl))
        focus (try simp only [Act.put, List.setIfInBounds_toArray, List.set_cons_zero, List.set_cons_succ])
        refine wpAnyH_take (i := 9) (v := ?_) rfl (by kernel_rfl) (by kernel_rfl) (by kernel_rfl) (fun _ _ _ h => h) (Or.inl ⟨by rfl, ?_⟩) (by assumption) ?_
        rotate_left
        focus (intro w hSw; (try dsimp only at hSw); go_simp; (try with_reducible rfl))
        focus (try simp only [Act.put, List.setIfInBounds_toArray, List.set_cons_zero, List.set_cons_succ])
        refine wpAnyH_take (i := 10) (v := ?_) rfl (by kernel_rfl) (by kernel_rfl) (by kernel_rfl) (fun _ _ _ h => h) (Or.inl ⟨by rfl, ?_⟩) (by assumption) ?_
        rotate_left
        focus (intro w hSw; (try dsimp only at hSw); go_simp; (try with_reducible rfl))
        focus (try simp only [Act.put, List.setIfInBounds_toArray, List.set_cons_zero, List.set_cons_succ])
        refine wpAnyH_take (i := 11) (v := ?_) rfl (by kernel_rfl) (by kernel_rfl) (by kernel_rfl) (fun _ _ _ h => h) (Or.inl ⟨by rfl, ?_⟩) (by assumption) ?_
        rotate_left
        focus (intro w hSw; (try dsimp only at hSw); go_simp; (try with_reducible rfl))
        focus (try simp only [Act.put, List.setIfInBounds_toArray, List.set_cons_zero, List.set_cons_succ])
        refine wpAnyH_take (i := 12) (v := ?_) rfl (by kernel_rfl) (by kernel_rfl) (by kernel_rfl) (fun _ _ _ h => h) (Or.inl ⟨by rfl, ?_⟩) (by assumption) ?_
        rotate_left
        focus (intro w hSw; (try dsimp only at hSw); go_simp; (try with_reducible rfl))
        focus (try simp only [Act.put, List.setIfInBounds_toArray, List.set_cons_zero, List.set_cons_succ])
        refine wpAnyH_ready (rs := [7, 13]) (by kernel_rfl) (by simp) ?_
        refine AllReadyH.cons rfl (fun K hK => ?_) ?_
        focus (go_simp; refine hK.out _ _ ?_ (fun hHeld1 => ?_))
        focus ((try dsimp only); (first | with_reducible exact hS0 | with_reducible assumption | (refine S2_2_next (by with_reducible assumption) ?_; assumption) | (refine S2_2_put ?_ ?_ ?_ ?_ ?_ ?_ ?_ ?_ ?_ <;> first | assumption | exact NotInt.bool _ | exact NotInt.slice _ _ _ | (dsimp only; omega) | (simp; done))))
        focus (clear hK K hHeld0; (try simp only [Act.put, List.setIfInBounds_toArray, List.set_cons_zero, List.set_cons_succ]))
        refine wpAnyH_ready (rs := [13]) (by kernel_rfl) (by simp) ?_
        refine AllReadyH.cons rfl (fun K hK => ?_) ?_
        focus (go_simp; (first | (go_at_call 74; refine (HZC.out _).mono ?_; rintro e w2 ⟨⟨s2, p2, n2, c2, rfl, hz2⟩, hb2⟩; have HB2 := Lib.hid (show Below wr.heap.size wr w2 from (by first | exact (Below.refl _ wr).drew.trans hb2 | exact hb2)); have HZ2 := Lib.hid hz2; have HEE2 := Lib.hid (HEE.out.keep HB2.out); clear hz2) | (go_at_call 98; refine (c_rMul s' p' i' c' (f k) s2 p2 n2 c2 a _ (HXE.out.keep HB2.out).raw HZ2.out.raw (by rw [← HXE.out.2.1]; have := HF.out k; omega) (by rw [← HZ2.out.2.1]; have := HNA.out; omega)).mono ?_; rintro e w3 ⟨⟨s3, p3, n3, c3, rfl, hz3⟩, hb3⟩; have HB3 := Lib.hid (HB2.out.trans (hb3.mono HB2.out.size)); have HZ3 := Lib.hid hz3; have HEE3 := Lib.hid (HEE.out.keep HB3.out); clear hz3 hb2) | (go_at_call 117; (first | rw [cellOf_eq HEE1.out.1, cellOf_eq HEE1.out.2] | rw [cellOf_eq HEE3.out.1, cellOf_eq HEE3.out.2] | rw [cellOf_eq HEE2.out.1, cellOf_eq HEE2.out.2]); refine (c_rAdd s5 p5 n5 c5 (tm5 a b f k k1) s3 p3 n3 c3 (f k * a) _ (HYE.out.keep HB3.out).raw HZ3.out.raw (by rw [← HYE.out.2.1]; have := tm5_size HF.out HNA.out HNB.out k k1; omega) (by rw [← HZ3.out.2.1]; have := nd_mul1 (HF.out k) (HNA.out); omega)).mono ?_; rintro e w4 ⟨⟨s6, p6, n6, c6, rfl, hz6⟩, hb6⟩; have hbe : Below wr.heap.size wr w4 := HB3.out.trans (hb6.mono HB3.out.size); have HQA3 := Lib.hid (ZRow.set (k' := N) (HROW.out.keep hbe) k1 (by omega) (tm a b f (k + 1)) (fun j hj hne => And.intro hj (tm_far (by rw [HK1.out]; exact hne))) (show Zs w4 s6 p6 n6 c6 (tm a b f (k + 1) k1) by rw [← HK1.out, tm_at, HK1.out]; exact hz6)); have HGR := Lib.hid (HBU.out.trans (but_below g hbe)); have HBF := Lib.hid (HBW.out.trans (hbe.mono HBW.out.size)); clear hz6 hbe hb3)); (first | done | with_reducible refine hK.out _ _ ?_ (fun hHeld2 => ?_) | (go_wp2_with fail; with_reducible refine hK.out _ _ ?_ (fun hHeld2 => ?_))))
        focus ((try dsimp only); (first | with_reducible exact hS0 | with_reducible assumption | (refine S2_2_next (by with_reducible assumption) ?_; assumption) | (refine S2_2_put ?_ ?_ ?_ ?_ ?_ ?_ ?_ ?_ ?_ <;> first | assumption | exact NotInt.bool _ | exact NotInt.slice _ _ _ | (dsimp only; omega) | (simp; done))))
        focus (clear hK K hHeld1; (try simp only [Act.put, List.setIfInBounds_toArray, List.set_cons_zero, List.set_cons_succ]))
        refine wpAnyH_ready (rs := [14]) (by kernel_rfl) (by simp) ?_
        refine AllReadyH.cons rfl (fun K hK => ?_) ?_
        focus (go_simp; (first | (go_at_call 74; refine (HZC.out _).mono ?_; rintro e w2 ⟨⟨s2, p2, n2, c2, rfl, hz2⟩, hb2⟩; have HB2 := Lib.hid (show Below wr.heap.size wr w2 from (by first | exact (Below.refl _ wr).drew.trans hb2 | exact hb2)); have HZ2 := Lib.hid hz2; have HEE2 := Lib.hid (HEE.out.keep HB2.out); clear hz2) | (go_at_call 98; refine (c_rMul s' p' i' c' (f k) s2 p2 n2 c2 a _ (HXE.out.keep HB2.out).raw HZ2.out.raw (by rw [← HXE.out.2.1]; have := HF.out k; omega) (by rw [← HZ2.out.2.1]; have := HNA.out; omega)).mono ?_; rintro e w3 ⟨⟨s3, p3, n3, c3, rfl, hz3⟩, hb3⟩; have HB3 := Lib.hid (HB2.out.trans (hb3.mono HB2.out.size)); have HZ3 := Lib.hid hz3; have HEE3 := Lib.hid (HEE.out.keep HB3.out); clear hz3 hb2) | (go_at_call 117; (first | rw [cellOf_eq HEE1.out.1, cellOf_eq HEE1.out.2] | rw [cellOf_eq HEE3.out.1, cellOf_eq HEE3.out.2] | rw [cellOf_eq HEE2.out.1, cellOf_eq HEE2.out.2]); refine (c_rAdd s5 p5 n5 c5 (tm5 a b f k k1) s3 p3 n3 c3 (f k * a) _ (HYE.out.keep HB3.out).raw HZ3.out.raw (by rw [← HYE.out.2.1]; have := tm5_size HF.out HNA.out HNB.out k k1; omega) (by rw [← HZ3.out.2.1]; have := nd_mul1 (HF.out k) (HNA.out); omega)).mono ?_; rintro e w4 ⟨⟨s6, p6, n6, c6, rfl, hz6⟩, hb6⟩; have hbe : Below wr.heap.size wr w4 := HB3.out.trans (hb6.mono HB3.out.size); have HQA3 := Lib.hid (ZRow.set (k' := N) (HROW.out.keep hbe) k1 (by omega) (tm a b f (k + 1)) (fun j hj hne => And.intro hj (tm_far (by rw [HK1.out]; exact hne))) (show Zs w4 s6 p6 n6 c6 (tm a b f (k + 1) k1) by rw [← HK1.out, tm_at, HK1.out]; exact hz6)); have HGR := Lib.hid (HBU.out.trans (but_below g hbe)); have HBF := Lib.hid (HBW.out.trans (hbe.mono HBW.out.size)); clear hz6 hbe hb3)); (first | done | with_reducible refine hK.out _ _ ?_ (fun hHeld3 => ?_) | (go_wp2_with fail; with_reducible refine hK.out _ _ ?_ (fun hHeld3 => ?_))))
        focus ((try dsimp only); (first | with_reducible exact hS0 | with_reducible assumption | (refine S2_2_next (by with_reducible assumption) ?_; assumption) | (refine S2_2_put ?_ ?_ ?_ ?_ ?_ ?_ ?_ ?_ ?_ <;> first | assumption | exact NotInt.bool _ | exact NotInt.slice _ _ _ | (dsimp only; omega) | (simp; done))))
        focus (clear hK K hHeld2; (try simp only [Act.put, List.setIfInBounds_toArray, List.set_cons_zero, List.set_cons_succ]))
        refine wpAnyH_ready (rs := [15]) (by kernel_rfl) (by simp) ?_
        refine AllReadyH.cons rfl (fun K hK => ?_) ?_
        focus (go_simp; (first | (go_at_call 74; refine (HZC.out _).mono ?_; rintro e w2 ⟨⟨s2, p2, n2, c2, rfl, hz2⟩, hb2⟩; have HB2 := Lib.hid (show Below wr.heap.size wr w2 from (by first | exact (Below.refl _ wr).drew.trans hb2 | exact hb2)); have HZ2 := Lib.hid hz2; have HEE2 := Lib.hid (HEE.out.keep HB2.out); clear hz2) | (go_at_call 98; refine (c_rMul s' p' i' c' (f k) s2 p2 n2 c2 a _ (HXE.out.keep HB2.out).raw HZ2.out.raw (by rw [← HXE.out.2.1]; have := HF.out k; omega) (by rw [← HZ2.out.2.1]; have := HNA.out; omega)).mono ?_; rintro e w3 ⟨⟨s3, p3, n3, c3, rfl, hz3⟩, hb3⟩; have HB3 := Lib.hid (HB2.out.trans (hb3.mono HB2.out.size)); have HZ3 := Lib.hid hz3; have HEE3 := Lib.hid (HEE.out.keep HB3.out); clear hz3 hb2) | (go_at_call 117; (first | rw [cellOf_eq HEE1.out.1, cellOf_eq HEE1.out.2] | rw [cellOf_eq HEE3.out.1, cellOf_eq HEE3.out.2] | rw [cellOf_eq HEE2.out.1, cellOf_eq HEE2.out.2]); refine (c_rAdd s5 p5 n5 c5 (tm5 a b f k k1) s3 p3 n3 c3 (f k * a) _ (HYE.out.keep HB3.out).raw HZ3.out.raw (by rw [← HYE.out.2.1]; have := tm5_size HF.out HNA.out HNB.out k k1; omega) (by rw [← HZ3.out.2.1]; have := nd_mul1 (HF.out k) (HNA.out); omega)).mono ?_; rintro e w4 ⟨⟨s6, p6, n6, c6, rfl, hz6⟩, hb6⟩; have hbe : Below wr.heap.size wr w4 := HB3.out.trans (hb6.mono HB3.out.size); have HQA3 := Lib.hid (ZRow.set (k' := N) (HROW.out.keep hbe) k1 (by omega) (tm a b f (k + 1)) (fun j hj hne => And.intro hj (tm_far (by rw [HK1.out]; exact hne))) (show Zs w4 s6 p6 n6 c6 (tm a b f (k + 1) k1) by rw [← HK1.out, tm_at, HK1.out]; exact hz6)); have HGR := Lib.hid (HBU.out.trans (but_below g hbe)); have HBF := Lib.hid (HBW.out.trans (hbe.mono HBW.out.size)); clear hz6 hbe hb3)); (first | done | with_reducible refine hK.out _ _ ?_ (fun hHeld4 => ?_) | (go_wp2_with fail; with_reducible refine hK.out _ _ ?_ (fun hHeld4 => ?_))))
        focus ((try dsimp only); (first | with_reducible exact hS0 | with_reducible assumption | (refine S2_2_next (by with_reducible assumption) ?_; assumption) | (refine S2_2_put ?_ ?_ ?_ ?_ ?_ ?_ ?_ ?_ ?_ <;> first | assumption | exact NotInt.bool _ | exact NotInt.slice _ _ _ | (dsimp only; omega) | (simp; done))))
        focus (clear hK K hHeld3; (try simp only [Act.put, List.setIfInBounds_toArray, List.set_cons_zero, List.set_cons_succ]))
        refine wpAnyH_take (i := 16) (v := ?_) rfl (by kernel_rfl) (by kernel_rfl) (by kernel_rfl) (fun _ _ _ h => h) (Or.inl ⟨by rfl, ?_⟩) (by assumption) ?_
        rotate_left
        focus (intro w hSw; (try dsimp only at hSw); go_simp; (try with_reducible rfl))
        focus (try simp only [Act.put, List.setIfInBounds_toArray, List.set_cons_zero, List.set_cons_succ])
        refine wpAnyH_ready (rs := [17]) (by kernel_rfl) (by simp) ?_
        refine AllReadyH.cons rfl (fun K hK => ?_) ?_
        focus (go_simp; refine hK.out _ _ ?_ (fun hHeld5 => ?_))
        focus ((try dsimp only); (first | with_reducible exact hS0 | with_reducible assumption | (refine S2_2_next (by with_reducible assumption) ?_; assumption) | (refine S2_2_put ?_ ?_ ?_ ?_ ?_ ?_ ?_ ?_ ?_ <;> first | assumption | exact NotInt.bool _ | exact NotInt.slice _ _ _ | (dsimp only; omega) | (simp; done))))
        focus (clear hK K hHeld4; (try simp only [Act.put, List.setIfInBounds_toArray, List.set_cons_zero, List.set_cons_succ]))
        focus (refine wpAnyH_done (by kernel_rfl) ?_ _)
        rotate_left
        exact AllReadyH.nil
        exact AllReadyH.nil
        exact AllReadyH.nil
        exact AllReadyH.nil
        refine AllReadyH.cons rfl (fun K hK => ?_) ?_
        focus (go_simp; (first | (go_at_call 74; refine (HZC.out _).mono ?_; rintro e w2 ⟨⟨s2, p2, n2, c2, rfl, hz2⟩, hb2⟩; have HB2 := Lib.hid (show Below wr.heap.size wr w2 from (by first | exact (Below.refl _ wr).drew.trans hb2 | exact hb2)); have HZ2 := Lib.hid hz2; have HEE2 := Lib.hid (HEE.out.keep HB2.out); clear hz2) | (go_at_call 98; refine (c_rMul s' p' i' c' (f k) s2 p2 n2 c2 a _ (HXE.out.keep HB2.out).raw HZ2.out.raw (by rw [← HXE.out.2.1]; have := HF.out k; omega) (by rw [← HZ2.out.2.1]; have := HNA.out; omega)).mono ?_; rintro e w3 ⟨⟨s3, p3, n3, c3, rfl, hz3⟩, hb3⟩; have HB3 := Lib.hid (HB2.out.trans (hb3.mono HB2.out.size)); have HZ3 := Lib.hid hz3; have HEE3 := Lib.hid (HEE.out.keep HB3.out); clear hz3 hb2) | (go_at_call 117; (first | rw [cellOf_eq HEE1.out.1, cellOf_eq HEE1.out.2] | rw [cellOf_eq HEE3.out.1, cellOf_eq HEE3.out.2] | rw [cellOf_eq HEE2.out.1, cellOf_eq HEE2.out.2]); refine (c_rAdd s5 p5 n5 c5 (tm5 a b f k k1) s3 p3 n3 c3 (f k * a) _ (HYE.out.keep HB3.out).raw HZ3.out.raw (by rw [← HYE.out.2.1]; have := tm5_size HF.out HNA.out HNB.out k k1; omega) (by rw [← HZ3.out.2.1]; have := nd_mul1 (HF.out k) (HNA.out); omega)).mono ?_; rintro e w4 ⟨⟨s6, p6, n6, c6, rfl, hz6⟩, hb6⟩; have hbe : Below wr.heap.size wr w4 := HB3.out.trans (hb6.mono HB3.out.size); have HQA3 := Lib.hid (ZRow.set (k' := N) (HROW.out.keep hbe) k1 (by omega) (tm a b f (k + 1)) (fun j hj hne => And.intro hj (tm_far (by rw [HK1.out]; exact hne))) (show Zs w4 s6 p6 n6 c6 (tm a b f (k + 1) k1) by rw [← HK1.out, tm_at, HK1.out]; exact hz6)); have HGR := Lib.hid (HBU.out.trans (but_below g hbe)); have HBF := Lib.hid (HBW.out.trans (hbe.mono HBW.out.size)); clear hz6 hbe hb3)); (first | done | with_reducible refine hK.out _ _ ?_ (fun hHeld1 => ?_) | (go_wp2_with fail; with_reducible refine hK.out _ _ ?_ (fun hHeld1 => ?_))))
        focus ((try dsimp only); (first | with_reducible exact hS0 | with_reducible assumption | (refine S2_2_next (by with_reducible assumption) ?_; assumption) | (refine S2_2_put ?_ ?_ ?_ ?_ ?_ ?_ ?_ ?_ ?_ <;> first | assumption | exact NotInt.bool _ | exact NotInt.slice _ _ _ | (dsimp only; omega) | (simp; done))))
        focus (clear hK K hHeld0; (try simp only [Act.put, List.setIfInBounds_toArray, List.set_cons_zero, List.set_cons_succ]))
        refine wpAnyH_ready (rs := [7, 14]) (by kernel_rfl) (by simp) ?_
        refine AllReadyH.cons rfl (fun K hK => ?_) ?_
        focus (go_simp; refine hK.out _ _ ?_ (fun hHeld2 => ?_))
        focus ((try dsimp only); (first | with_reducible exact hS0 | with_reducible assumption | (refine S2_2_next (by with_reducible assumption) ?_; assumption) | (refine S2_2_put ?_ ?_ ?_ ?_ ?_ ?_ ?_ ?_ ?_ <;> first | assumption | exact NotInt.bool _ | exact NotInt.slice _ _ _ | (dsimp only; omega) | (simp; done))))
        focus (clear hK K hHeld1; (try simp only [Act.put, List.setIfInBounds_toArray, List.set_cons_zero, List.set_cons_succ]))
        refine wpAnyH_ready (rs := [14]) (by kernel_rfl) (by simp) ?_
        refine AllReadyH.cons rfl (fun K hK => ?_) ?_
        focus (go_simp; (first | (go_at_call 74; refine (HZC.out _).mono ?_; rintro e w2 ⟨⟨s2, p2, n2, c2, rfl, hz2⟩, hb2⟩; have HB2 := Lib.hid (show Below wr.heap.size wr w2 from (by first | exact (Below.refl _ wr).drew.trans hb2 | exact hb2)); have HZ2 := Lib.hid hz2; have HEE2 := Lib.hid (HEE.out.keep HB2.out); clear hz2) | (go_at_call 98; refine (c_rMul s' p' i' c' (f k) s2 p2 n2 c2 a _ (HXE.out.keep HB2.out).raw HZ2.out.raw (by rw [← HXE.out.2.1]; have := HF.out k; omega) (by rw [← HZ2.out.2.1]; have := HNA.out; omega)).mono ?_; rintro e w3 ⟨⟨s3, p3, n3, c3, rfl, hz3⟩, hb3⟩; have HB3 := Lib.hid (HB2.out.trans (hb3.mono HB2.out.size)); have HZ3 := Lib.hid hz3; have HEE3 := Lib.hid (HEE.out.keep HB3.out); clear hz3 hb2) | (go_at_call 117; (first | rw [cellOf_eq HEE1.out.1, cellOf_eq HEE1.out.2] | rw [cellOf_eq HEE3.out.1, cellOf_eq HEE3.out.2] | rw [cellOf_eq HEE2.out.1, cellOf_eq HEE2.out.2]); refine (c_rAdd s5 p5 n5 c5 (tm5 a b f k k1) s3 p3 n3 c3 (f k * a) _ (HYE.out.keep HB3.out).raw HZ3.out.raw (by rw [← HYE.out.2.1]; have := tm5_size HF.out HNA.out HNB.out k k1; omega) (by rw [← HZ3.out.2.1]; have := nd_mul1 (HF.out k) (HNA.out); omega)).mono ?_; rintro e w4 ⟨⟨s6, p6, n6, c6, rfl, hz6⟩, hb6⟩; have hbe : Below wr.heap.size wr w4 := HB3.out.trans (hb6.mono HB3.out.size); have HQA3 := Lib.hid (ZRow.set (k' := N) (HROW.out.keep hbe) k1 (by omega) (tm a b f (k + 1)) (fun j hj hne => And.intro hj (tm_far (by rw [HK1.out]; exact hne))) (show Zs w4 s6 p6 n6 c6 (tm a b f (k + 1) k1) by rw [← HK1.out, tm_at, HK1.out]; exact hz6)); have HGR := Lib.hid (HBU.out.trans (but_below g hbe)); have HBF := Lib.hid (HBW.out.trans (hbe.mono HBW.out.size)); clear hz6 hbe hb3)); (first | done | with_reducible refine hK.out _ _ ?_ (fun hHeld3 => ?_) | (go_wp2_with fail; with_reducible refine hK.out _ _ ?_ (fun hHeld3 => ?_))))
        focus ((try dsimp only); (first | with_reducible exact hS0 | with_reducible assumption | (refine S2_2_next (by with_reducible assumption) ?_; assumption) | (refine S2_2_put ?_ ?_ ?_ ?_ ?_ ?_ ?_ ?_ ?_ <;> first | assumption | exact NotInt.bool _ | exact NotInt.slice _ _ _ | (dsimp only; omega) | (simp; done))))
        focus (clear hK K hHeld2; (try simp only [Act.put, List.setIfInBounds_toArray, List.set_cons_zero, List.set_cons_succ]))
        refine wpAnyH_ready (rs := [15]) (by kernel_rfl) (by simp) ?_
        refine AllReadyH.cons rfl (fun K hK => ?_) ?_
        focus (go_simp; (first | (go_at_call 74; refine (HZC.out _).mono ?_; rintro e w2 ⟨⟨s2, p2, n2, c2, rfl, hz2⟩, hb2⟩; have HB2 := Lib.hid (show Below wr.heap.size wr w2 from (by first | exact (Below.refl _ wr).drew.trans hb2 | exact hb2)); have HZ2 := Lib.hid hz2; have HEE2 := Lib.hid (HEE.out.keep HB2.out); clear hz2) | (go_at_call 98; refine (c_rMul s' p' i' c' (f k) s2 p2 n2 c2 a _ (HXE.out.keep HB2.out).raw HZ2.out.raw (by rw [← HXE.out.2.1]; have := HF.out k; omega) (by rw [← HZ2.out.2.1]; have := HNA.out; omega)).mono ?_; rintro e w3 ⟨⟨s3, p3, n3, c3, rfl, hz3⟩, hb3⟩; have HB3 := Lib.hid (HB2.out.trans (hb3.mono HB2.out.size)); have HZ3 := Lib.hid hz3; have HEE3 := Lib.hid (HEE.out.keep HB3.out); clear hz3 hb2) | (go_at_call 117; (first | rw [cellOf_eq HEE1.out.1, cellOf_eq HEE1.out.2] | rw [cellOf_eq HEE3.out.1, cellOf_eq HEE3.out.2] | rw [cellOf_eq HEE2.out.1, cellOf_eq HEE2.out.2]); refine (c_rAdd s5 p5 n5 c5 (tm5 a b f k k1) s3 p3 n3 c3 (f k * a) _ (HYE.out.keep HB3.out).raw HZ3.out.raw (by rw [← HYE.out.2.1]; have := tm5_size HF.out HNA.out HNB.out k k1; omega) (by rw [← HZ3.out.2.1]; have := nd_mul1 (HF.out k) (HNA.out); omega)).mono ?_; rintro e w4 ⟨⟨s6, p6, n6, c6, rfl, hz6⟩, hb6⟩; have hbe : Below wr.heap.size wr w4 := HB3.out.trans (hb6.mono HB3.out.size); have HQA3 := Lib.hid (ZRow.set (k' := N) (HROW.out.keep hbe) k1 (by omega) (tm a b f (k + 1)) (fun j hj hne => And.intro hj (tm_far (by rw [HK1.out]; exact hne))) (show Zs w4 s6 p6 n6 c6 (tm a b f (k + 1) k1) by rw [← HK1.out, tm_at, HK1.out]; exact hz6)); have HGR := Lib.hid (HBU.out.trans (but_below g hbe)); have HBF := Lib.hid (HBW.out.trans (hbe.mono HBW.out.size)); clear hz6 hbe hb3)); (first | done | with_reducible refine hK.out _ _ ?_ (fun hHeld4 => ?_) | (go_wp2_with fail; with_reducible refine hK.out _ _ ?_ (fun hHeld4 => ?_))))
        focus ((try dsimp only); (first | with_reducible exact hS0 | with_reducible assumption | (refine S2_2_next (by with_reducible assumption) ?_; assumption) | (refine S2_2_put ?_ ?_ ?_ ?_ ?_ ?_ ?_ ?_ ?_ <;> first | assumption | exact NotInt.bool _ | exact NotInt.slice _ _ _ | (dsimp only; omega) | (simp; done))))
        focus (clear hK K hHeld3; (try simp only [Act.put, List.setIfInBounds_toArray, List.set_cons_zero, List.set_cons_succ]))
        refine wpAnyH_take (i := 16) (v := ?_) rfl (by kernel_rfl) (by kernel_rfl) (by kernel_rfl) (fun _ _ _ h => h) (Or.inl ⟨by rfl, ?_⟩) (by assumption) ?_
        rotate_left
        focus (intro w hSw; (try dsimp only at hSw); go_simp; (try with_reducible rfl))
        focus (try simp only [Act.put, List.setIfInBounds_toArray, List.set_cons_zero, List.set_cons_succ])
        refine wpAnyH_ready (rs := [17]) (by kernel_rfl) (by simp) ?_
        refine AllReadyH.cons rfl (fun K hK => ?_) ?_
        focus (go_simp; refine hK.out _ _ ?_ (fun hHeld5 => ?_))
        focus ((try dsimp only); (first | with_reducible exact hS0 | with_reducible assumption | (refine S2_2_next (by with_reducible assumption) ?_; assumption) | (refine S2_2_put ?_ ?_ ?_ ?_ ?_ ?_ ?_ ?_ ?_ <;> first | assumption | exact NotInt.bool _ | exact NotInt.slice _ _ _ | (dsimp only; omega) | (simp; done))))
        focus (clear hK K hHeld4; (try simp only [Act.put, List.setIfInBounds_toArray, List.set_cons_zero, List.set_cons_succ]))
        focus (refine wpAnyH_done (by kernel_rfl) ?_ _)
        rotate_left
        exact AllReadyH.nil
        exact AllReadyH.nil
        exact AllReadyH.nil
        refine AllReadyH.cons rfl (fun K hK => ?_) ?_
        focus (go_simp; (first | (go_at_call 74; refine (HZC.out _).mono ?_; rintro e w2 ⟨⟨s2, p2, n2, c2, rfl, hz2⟩, hb2⟩; have HB2 := Lib.hid (show Below wr.heap.size wr w2 from (by first | exact (Below.refl _ wr).drew.trans hb2 | exact hb2)); have HZ2 := Lib.hid hz2; have HEE2 := Lib.hid (HEE.out.keep HB2.out); clear hz2) | (go_at_call 98; refine (c_rMul s' p' i' c' (f k) s2 p2 n2 c2 a _ (HXE.out.keep HB2.out).raw HZ2.out.raw (by rw [← HXE.out.2.1]; have := HF.out k; omega) (by rw [← HZ2.out.2.1]; have := HNA.out; omega)).mono ?_; rintro e w3 ⟨⟨s3, p3, n3, c3, rfl, hz3⟩, hb3⟩; have HB3 := Lib.hid (HB2.out.trans (hb3.mono HB2.out.size)); have HZ3 := Lib.hid hz3; have HEE3 := Lib.hid (HEE.out.keep HB3.out); clear hz3 hb2) | (go_at_call 117; (first | rw [cellOf_eq HEE1.out.1, cellOf_eq HEE1.out.2] | rw [cellOf_eq HEE3.out.1, cellOf_eq HEE3.out.2] | rw [cellOf_eq HEE2.out.1, cellOf_eq HEE2.out.2]); refine (c_rAdd s5 p5 n5 c5 (tm5 a b f k k1) s3 p3 n3 c3 (f k * a) _ (HYE.out.keep HB3.out).raw HZ3.out.raw (by rw [← HYE.out.2.1]; have := tm5_size HF.out HNA.out HNB.out k k1; omega) (by rw [← HZ3.out.2.1]; have := nd_mul1 (HF.out k) (HNA.out); omega)).mono ?_; rintro e w4 ⟨⟨s6, p6, n6, c6, rfl, hz6⟩, hb6⟩; have hbe : Below wr.heap.size wr w4 := HB3.out.trans (hb6.mono HB3.out.size); have HQA3 := Lib.hid (ZRow.set (k' := N) (HROW.out.keep hbe) k1 (by omega) (tm a b f (k + 1)) (fun j hj hne => And.intro hj (tm_far (by rw [HK1.out]; exact hne))) (show Zs w4 s6 p6 n6 c6 (tm a b f (k + 1) k1) by rw [← HK1.out, tm_at, HK1.out]; exact hz6)); have HGR := Lib.hid (HBU.out.trans (but_below g hbe)); have HBF := Lib.hid (HBW.out.trans (hbe.mono HBW.out.size)); clear hz6 hbe hb3)); (first | done | with_reducible refine hK.out _ _ ?_ (fun hHeld2 => ?_) | (go_wp2_with fail; with_reducible refine hK.out _ _ ?_ (fun hHeld2 => ?_))))
        focus ((try dsimp only); (first | with_reducible exact hS0 | with_reducible assumption | (refine S2_2_next (by with_reducible assumption) ?_; assumption) | (refine S2_2_put ?_ ?_ ?_ ?_ ?_ ?_ ?_ ?_ ?_ <;> first | assumption | exact NotInt.bool _ | exact NotInt.slice _ _ _ | (dsimp only; omega) | (simp; done))))
        focus (clear hK K hHeld1; (try simp only [Act.put, List.setIfInBounds_toArray, List.set_cons_zero, List.set_cons_succ]))
        refine wpAnyH_ready (rs := [7]) (by kernel_rfl) (by simp) ?_
        refine AllReadyH.cons rfl (fun K hK => ?_) ?_
        focus (go_simp; refine hK.out _ _ ?_ (fun hHeld3 => ?_))
        focus ((try dsimp only); (first | with_reducible exact hS0 | with_reducible assumption | (refine S2_2_next (by with_reducible assumption) ?_; assumption) | (refine S2_2_put ?_ ?_ ?_ ?_ ?_ ?_ ?_ ?_ ?_ <;> first | assumption | exact NotInt.bool _ | exact NotInt.slice _ _ _ | (dsimp only; omega) | (simp; done))))
        focus (clear hK K hHeld2; (try simp only [Act.put, List.setIfInBounds_toArray, List.set_cons_zero, List.set_cons_succ]))
        refine wpAnyH_ready (rs := [15]) (by kernel_rfl) (by simp) ?_
        refine AllReadyH.cons rfl (fun K hK => ?_) ?_
        focus (go_simp; (first | (go_at_call 74; refine (HZC.out _).mono ?_; rintro e w2 ⟨⟨s2, p2, n2, c2, rfl, hz2⟩, hb2⟩; have HB2 := Lib.hid (show Below wr.heap.size wr w2 from (by first | exact (Below.refl _ wr).drew.trans hb2 | exact hb2)); have HZ2 := Lib.hid hz2; have HEE2 := Lib.hid (HEE.out.keep HB2.out); clear hz2) | (go_at_call 98; refine (c_rMul s' p' i' c' (f k) s2 p2 n2 c2 a _ (HXE.out.keep HB2.out).raw HZ2.out.raw (by rw [← HXE.out.2.1]; have := HF.out k; omega) (by rw [← HZ2.out.2.1]; have := HNA.out; omega)).mono ?_; rintro e w3 ⟨⟨s3, p3, n3, c3, rfl, hz3⟩, hb3⟩; have HB3 := Lib.hid (HB2.out.trans (hb3.mono HB2.out.size)); have HZ3 := Lib.hid hz3; have HEE3 := Lib.hid (HEE.out.keep HB3.out); clear hz3 hb2) | (go_at_call 117; (first | rw [cellOf_eq HEE1.out.1, cellOf_eq HEE1.out.2] | rw [cellOf_eq HEE3.out.1, cellOf_eq HEE3.out.2] | rw [cellOf_eq HEE2.out.1, cellOf_eq HEE2.out.2]); refine (c_rAdd s5 p5 n5 c5 (tm5 a b f k k1) s3 p3 n3 c3 (f k * a) _ (HYE.out.keep HB3.out).raw HZ3.out.raw (by rw [← HYE.out.2.1]; have := tm5_size HF.out HNA.out HNB.out k k1; omega) (by rw [← HZ3.out.2.1]; have := nd_mul1 (HF.out k) (HNA.out); omega)).mono ?_; rintro e w4 ⟨⟨s6, p6, n6, c6, rfl, hz6⟩, hb6⟩; have hbe : Below wr.heap.size wr w4 := HB3.out.trans (hb6.mono HB3.out.size); have HQA3 := Lib.hid (ZRow.set (k' := N) (HROW.out.keep hbe) k1 (by omega) (tm a b f (k + 1)) (fun j hj hne => And.intro hj (tm_far (by rw [HK1.out]; exact hne))) (show Zs w4 s6 p6 n6 c6 (tm a b f (k + 1) k1) by rw [← HK1.out, tm_at, HK1.out]; exact hz6)); have HGR := Lib.hid (HBU.out.trans (but_below g hbe)); have HBF := Lib.hid (HBW.out.trans (hbe.mono HBW.out.size)); clear hz6 hbe hb3)); (first | done | with_reducible refine hK.out _ _ ?_ (fun hHeld4 => ?_) | (go_wp2_with fail; with_reducible refine hK.out _ _ ?_ (fun hHeld4 => ?_))))
        focus ((try dsimp only); (first | with_reducible exact hS0 | with_reducible assumption | (refine S2_2_next (by with_reducible assumption) ?_; assumption) | (refine S2_2_put ?_ ?_ ?_ ?_ ?_ ?_ ?_ ?_ ?_ <;> first | assumption | exact NotInt.bool _ | exact NotInt.slice _ _ _ | (dsimp only; omega) | (simp; done))))
        focus (clear hK K hHeld3; (try simp only [Act.put, List.setIfInBounds_toArray, List.set_cons_zero, List.set_cons_succ]))
        refine wpAnyH_take (i := 16) (v := ?_) rfl (by kernel_rfl) (by kernel_rfl) (by kernel_rfl) (fun _ _ _ h => h) (Or.inl ⟨by rfl, ?_⟩) (by assumption) ?_
        rotate_left
        focus (intro w hSw; (try dsimp only at hSw); go_simp; (try with_reducible rfl))
        focus (try simp only [Act.put, List.setIfInBounds_toArray, List.set_cons_zero, List.set_cons_succ])
        refine wpAnyH_ready (rs := [17]) (by kernel_rfl) (by simp) ?_
        refine AllReadyH.cons rfl (fun K hK => ?_) ?_
        focus (go_simp; refine hK.out _ _ ?_ (fun hHeld5 => ?_))
        focus ((try dsimp only); (first | with_reducible exact hS0 | with_reducible assumption | (refine S2_2_next (by with_reducible assumption) ?_; assumption) | (refine S2_2_put ?_ ?_ ?_ ?_ ?_ ?_ ?_ ?_ ?_ <;> first | assumption | exact NotInt.bool _ | exact NotInt.slice _ _ _ | (dsimp only; omega) | (simp; done))))
        focus (clear hK K hHeld4; (try simp only [Act.put, List.setIfInBounds_toArray, List.set_cons_zero, List.set_cons_succ]))
        focus (refine wpAnyH_done (by kernel_rfl) ?_ _)
        rotate_left
        exact AllReadyH.nil
        exact AllReadyH.nil
        exact AllReadyH.nil
        exact AllReadyH.nil
        exact AllReadyH.nil
        all_goals go_wp2
        all_goals go_roundw
        all_goals first
          | exact ⟨k + 1, by omega, by go_num, HQA3.out, HGR.out.trans (but_put2 _ _ _ _ _ _)⟩
          | (simp [intOf]; omega)
    · obtain rfl : n = k := by omega
      have HRN := Lib.hid (hrow.congr (f' := lin a b f) (fun j hj => tm_all (by omega) HZ0.out))
      clear hrow hbu HROW
      go_wp2
      go_ret
      exact ⟨⟨g, cap, rfl, hgw, HRN.out⟩, HBW.out⟩
end Go.Proofs.YthikonjlgljikaaGreatDoor
namespace Go.Proofs.YthikonjlgljikaaGreatDoor
open Go.RowKit

set_option maxHeartbeats 4000000 in
set_option maxRecDepth 100000 in
theorem c_Moved (m i : Nat) (a b c d : Int) (w : World) (hm : m ≤ 30) (_hi : i ≤ 1000) (ha : -1073741824 ≤ a) (ha' : a ≤ 1073741824) (hb : -1073741824 ≤ b) (hb' : b ≤ 1073741824) (hc : -1073741824 ≤ c) (hc' : c ≤ 1073741824) (hd : -1073741824 ≤ d) (hd' : d ≤ 1073741824) :
    Calls Tryz.prog 158 #[.int .i64 m, .int .i64 i, .agg #[.int .i64 a, .int .i64 b, .int .i64 c, .int .i64 d]] w fun e w' => (∃ g cap, e = .returned (.slice (some ⟨g, 0, none⟩) ((m + 1 : Nat)) cap) ∧ w.heap.size ≤ g ∧ ZRow (mv i a b c d m) w' g (m + 1) (m + 1)) ∧ Below w.heap.size w w' := by
  have HAB := Lib.hid (And.intro (And.intro ha ha') (And.intro (And.intro hb hb') (And.intro (And.intro hc hc') (And.intro hd hd'))))
  have HN := Lib.hid (And.intro (nd64 ha ha') (And.intro (nd64 hb hb') (And.intro (nd64 hc hc') (nd64 hd hd'))))
  clear ha ha' hb hb' hc hc' hd hd'
  go_enter Tryz.func158, Tryz.ntmps158
  go_wp2_with fail
  obtain ⟨X0, X1, hb0⟩ := box2 w #[.int .i64 a, .int .i64 b, .int .i64 c, .int .i64 d] 97 #[.int .i64 1] 3
  obtain ⟨w0, hw0⟩ : ∃ w0, (w.alloc (.cells #[.int .i64 a, .int .i64 b, .int .i64 c, .int .i64 d] 97)).alloc (.cells #[.int .i64 1] 3) = w0 := ⟨_, rfl⟩
  rw [hw0] at X0 X1 hb0 ⊢
  have hcell : ∀ j, j < 1 → w0.cell? ⟨w.heap.size + 1, j, none⟩ = some (.int .i64 1) := by
    intro j hj
    obtain rfl : j = 0 := by omega
    exact X1.at_ 0 rfl
  have HZS := Lib.hid (c_Zs (w.heap.size + 1) 1 1 (fun _ => 1) w0 X1.lt hcell (fun _ _ => by omega) (by omega))
  clear hcell
  have HX0 := Lib.hid X0
  have HB0 := Lib.hid hb0
  clear X0 X1 hb0 hw0
  refine HZS.out.mono ?_
  rintro e w2 ⟨⟨v2, rfl, ho⟩, hb2⟩
  obtain ⟨g2, cap2, rfl, hgB, hro⟩ := ho.row.resolve_left (fun h => by omega)
  have HBW2 := Lib.hid (HB0.out.trans (hb2.mono HB0.out.size))
  have HX2 := Lib.hid (HX0.out.below_ hb2 HX0.out.lt)
  have hgw : w.heap.size ≤ g2 := Nat.le_trans HB0.out.size hgB
  have HRO := Lib.hid (hro.congr (f' := mv i a b c d 0) (fun j hj => by
    obtain rfl : j = 0 := by omega
    simp [mv]))
  clear hb2 ho HZS HB0 HX0 hgB hro
  go_wp2
  go_loopw [7, 8] (fun v n wr => ∃ k : Nat, k ≤ m ∧ n = .int .i64 k ∧ ∃ g cap, v = .slice (some ⟨g, 0, none⟩) ((k + 1 : Nat)) cap ∧ w.heap.size ≤ g ∧ ZRow (mv i a b c d k) wr g (k + 1) (k + 1) ∧ Below w2.heap.size w2 wr) (fun _ n _ => m - (intOf n).toNat)
  case atStart => exact ⟨0, Nat.zero_le _, rfl, g2, cap2, rfl, hgw, HRO.out, Below.refl _ _⟩
  case round =>
    obtain ⟨k, hk, rfl, g, cap, rfl, hgw2, hro, hbr⟩ := hrel
    have HBR := Lib.hid hbr
    have HB := Lib.hid (HBW2.out.trans (hbr.mono HBW2.out.size))
    have x0 := (HX2.out.below_ hbr HX2.out.lt).at_ 0 rfl
    have x1 := (HX2.out.below_ hbr HX2.out.lt).at_ 1 rfl
    have x2 := (HX2.out.below_ hbr HX2.out.lt).at_ 2 rfl
    have x3 := (HX2.out.below_ hbr HX2.out.lt).at_ 3 rfl
    clear hbr HRO
    by_cases hlt : k < m
    · by_cases hki : k < i
      · have HT := Lib.hid (c_times40 (.slice (some ⟨g, 0, none⟩) (k + 1) cap) (k + 1) (mv i a b c d k) a b (1 + 3 * k) wr (hro.zl cap) (by omega) (by omega) (by have := HAB.out; omega) (by have := HAB.out; omega) (by have := HAB.out; omega) (by have := HAB.out; omega) (fun j => mv_size i a b c d HN.out.1 HN.out.2.1 HN.out.2.2.1 HN.out.2.2.2 k j) (by omega) (mv_zero i a b c d k (k + 1) (Nat.lt_succ_self k)))
        have HE := Lib.hid (show lin a b (mv i a b c d k) = mv i a b c d (k + 1) by rw [mv, if_pos hki])
        clear hro
        go_wp2_with fail
        refine HT.out.mono ?_
        rintro e w5 ⟨⟨g5, cap5, rfl, hg5, hr5⟩, hb5⟩
        rw [HE.out] at hr5
        have HR5 := Lib.hid hr5
        have HBR5 := Lib.hid (HBR.out.trans (hb5.mono HBR.out.size))
        have hg6 : w.heap.size ≤ g5 := Nat.le_trans HB.out.size hg5
        clear hr5 hb5 HT HE HB
        go_wp2
        go_roundw
        case rel => exact ⟨k + 1, by omega, by go_num, g5, cap5, rfl, hg6, HR5.out, HBR5.out⟩
        case measure => simp [intOf]; omega
      · have HT := Lib.hid (c_times40 (.slice (some ⟨g, 0, none⟩) (k + 1) cap) (k + 1) (mv i a b c d k) c d (1 + 3 * k) wr (hro.zl cap) (by omega) (by omega) (by have := HAB.out; omega) (by have := HAB.out; omega) (by have := HAB.out; omega) (by have := HAB.out; omega) (fun j => mv_size i a b c d HN.out.1 HN.out.2.1 HN.out.2.2.1 HN.out.2.2.2 k j) (by omega) (mv_zero i a b c d k (k + 1) (Nat.lt_succ_self k)))
        have HE := Lib.hid (show lin c d (mv i a b c d k) = mv i a b c d (k + 1) by rw [mv, if_neg hki])
        clear hro
        go_wp2_with fail
        refine HT.out.mono ?_
        rintro e w5 ⟨⟨g5, cap5, rfl, hg5, hr5⟩, hb5⟩
        rw [HE.out] at hr5
        have HR5 := Lib.hid hr5
        have HBR5 := Lib.hid (HBR.out.trans (hb5.mono HBR.out.size))
        have hg6 : w.heap.size ≤ g5 := Nat.le_trans HB.out.size hg5
        clear hr5 hb5 HT HE HB
        go_wp2
        go_roundw
        case rel => exact ⟨k + 1, by omega, by go_num, g5, cap5, rfl, hg6, HR5.out, HBR5.out⟩
        case measure => simp [intOf]; omega
    · obtain rfl : m = k := by omega
      have HRR := Lib.hid hro
      clear hro
      go_wp2
      go_ret
      exact ⟨⟨g, cap, rfl, hgw2, HRR.out⟩, HB.out⟩
end Go.Proofs.YthikonjlgljikaaGreatDoor
