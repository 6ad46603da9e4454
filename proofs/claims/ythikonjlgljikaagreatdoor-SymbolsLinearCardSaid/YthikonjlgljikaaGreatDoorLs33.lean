/- Contract of symbols.add: a multiple of a row is added to a row in place. -/
import Derived.Test.YthikonjlgljikaaGreatDoorLs31
namespace Go.Proofs.YthikonjlgljikaaGreatDoor
set_option linter.unusedSimpArgs false
open Go.RowKit Eli

theorem QE.butR {r : Rat} {w w' : World} {g i R : Nat} (h : QE (IsQ r) w g i) (h32 : I32 w w') (hg : w.grownBy w' (some R)) (hne : g ≠ R) : QE (IsQ r) w' g i := by
  have hc : ∀ j v, w.cell? ⟨g, j, none⟩ = some v → w'.cell? ⟨g, j, none⟩ = some v := fun j v e => hg.cell e (fun e2 => by injection e2 with e2; exact hne e2)
  obtain ⟨s, p, n, c, t, q, m, d, h0, h1, h2, h3, h4⟩ := h
  exact ⟨s, p, n, c, t, q, m, d, hc _ _ h0, hc _ _ h1, hc _ _ h2, hc _ _ h3, h4.i32 h32⟩
/-- The row while a multiple of Y is added. -/
def addQ (F Y : Nat → Rat) (x : Rat) (k : Nat) : Nat → FP := fun j => IsQ (if j < k then F j + x * Y j else F j)
theorem addQ.done {F Y : Nat → Rat} {x : Rat} {k : Nat} {w : World} {g N : Nat} (h : QRow (addQ F Y x k) w g N N) (h0 : F k + x * Y k = F k) : QRow (addQ F Y x (k + 1)) w g N N :=
  QRow.congr h (fun j _ => by
    unfold addQ
    by_cases hj : j < k
    · rw [if_pos hj, if_pos (by omega)]
    · rw [if_neg hj]
      by_cases hj2 : j = k
      · rw [if_pos (by omega), hj2, h0]
      · rw [if_neg (by omega)])
theorem addQ.put {F Y : Nat → Rat} {x : Rat} {k : Nat} {w : World} {g N : Nat} (h : QRow (addQ F Y x k) w g N N) (hk : k < N) {s : Bool} {p : Option Addr} {n c : Nat} {t : Bool} {q : Option Addr} {m d : Nat} (hq : Qs w s p n c t q m d (F k + x * Y k)) :
    QRow (addQ F Y x (k + 1)) ((((w.setCell ⟨g, k * 4, none⟩ (.bool s)).setCell ⟨g, k * 4 + 1, none⟩ (.slice p n c)).setCell ⟨g, k * 4 + 2, none⟩ (.bool t)).setCell ⟨g, k * 4 + 3, none⟩ (.slice q m d)) g N N :=
  QRow.set (fun _ => IsQ.solid _) h k hk _ (IsQ.solid _) (fun i hi hne => ⟨hi, by
    unfold addQ
    by_cases hj : i < k
    · rw [if_pos hj, if_pos (by omega)]
    · rw [if_neg hj, if_neg (by omega)]⟩) (show IsQ (if k < k + 1 then F k + x * Y k else F k) w s p n c t q m d by rw [if_pos (Nat.lt_succ_self k)]; exact hq)
theorem addQ.elem {F Y : Nat → Rat} {x : Rat} {k : Nat} {w : World} {g N : Nat} (h : QRow (addQ F Y x k) w g N N) (hk : k < N) : QE (IsQ (F k)) w g (k * 4) := by
  have h1 := QRow.val h k hk
  unfold addQ at h1
  rw [if_neg (Nat.lt_irrefl k)] at h1
  exact h1
theorem add_grown {w0 we w4 : World} {g k : Nat} {v0 v1 v2 v3 : Value} (h : w0.grownBy we (some g)) (hb : Below we.heap.size we w4) : w0.grownBy ((((w4.setCell ⟨g, k * 4, none⟩ v0).setCell ⟨g, k * 4 + 1, none⟩ v1).setCell ⟨g, k * 4 + 2, none⟩ v2).setCell ⟨g, k * 4 + 3, none⟩ v3) (some g) :=
  (h.trans (but_below g hb)).trans (but_put4 w4 g _ _ _ _ v0 v1 v2 v3)
set_option maxHeartbeats 2000000 in
set_option maxRecDepth 100000 in
theorem c_addTo (g N cx : Nat) (v2 : Value) (F Y : Nat → Rat) (s : Bool) (p : Option Addr) (n c : Nat) (t : Bool) (q : Option Addr) (m d : Nat) (x : Rat) (w : World) (h1 : QRow (fun j => IsQ (F j)) w g N N)
    (hy : N = 0 ∨ ∃ gy oy cy, v2 = .slice (some ⟨gy, oy, none⟩) N cy ∧ gy ≠ g ∧ gy < w.heap.size ∧ ∀ j, j < N → QE (IsQ (Y j)) w gy (oy + j * 4))
    (hx : Qs w s p n c t q m d x) (hK : hq x ≤ 100000000) (hF : ∀ j, j < N → hq (F j) ≤ 100000000 ∧ hq (Y j) ≤ 100000000) (hN : N ≤ 1000000) :
    Calls Tryz.prog 56 #[.slice (some ⟨g, 0, none⟩) N cx, .agg #[.bool s, .slice p n c, .bool t, .slice q m d], v2] w fun e w' => (∃ v, e = .returned v) ∧ QRow (fun j => IsQ (F j + x * Y j)) w' g N N ∧ w.grownBy w' (some g) ∧ I32 w w' := by
  have HY := Lib.hid hy
  have HX := Lib.hid hx
  have HF := Lib.hid hF
  have H1 := Lib.hid h1
  have HK := Lib.hid hK
  have HGS := Lib.hid h1.sts.1
  clear h1 hy hx hF hK
  go_enter Tryz.func56, Tryz.ntmps56
  go_wp2_with fail
  obtain ⟨w0, hw0⟩ : ∃ w0, w.alloc (.cells #[.bool s, .slice p n c, .bool t, .slice q m d] 35) = w0 := ⟨_, rfl⟩
  rw [hw0]
  obtain ⟨X0, hb0⟩ := box1 w #[.bool s, .slice p n c, .bool t, .slice q m d] 35
  rw [hw0] at X0 hb0
  have HB0 := Lib.hid hb0
  have HC0 := Lib.hid X0
  have HR0 := Lib.hid (show QRow (addQ F Y x 0) w0 g N N from QRow.congr (QRow.keep (fun _ => IsQ.solid _) H1.out hb0) (fun j _ => by unfold addQ; rw [if_neg (Nat.not_lt_zero j)]))
  have HQ0 := Lib.hid (HX.out.keep hb0)
  obtain ⟨gc, hgc⟩ : ∃ gc, w.heap.size = gc := ⟨_, rfl⟩
  have HGC := Lib.hid (show gc ≠ g by have := HGS.out; omega)
  rw [hgc] at HC0 ⊢
  have HGC2 := Lib.hid hgc
  clear X0 hb0 hw0 H1 HX hgc
  go_wp2
  go_loopw [9] (fun i wr => ∃ k : Nat, k ≤ N ∧ i = .int .i64 k ∧ QRow (addQ F Y x k) wr g N N ∧ w0.grownBy wr (some g) ∧ I32 w0 wr) (fun i _ => N - (intOf i).toNat)
  case atStart => exact ⟨0, Nat.zero_le _, rfl, HR0.out, but_below g (Below.refl _ _), I32.refl _⟩
  case round =>
    obtain ⟨k, hk, rfl, hrow, hgr, h32⟩ := hrel
    have HROW := Lib.hid hrow
    have HGR := Lib.hid hgr
    have H32 := Lib.hid h32
    clear hrow hgr h32 HR0
    by_cases hlt : k < N
    · obtain ⟨gy, oy, cy, rfl, hne, hgy, hye⟩ := HY.out.resolve_left (by omega)
      have HNE := Lib.hid hne
      obtain ⟨s', p', i1, c', t', q', m', d', a0, a1, a2, a3, hx⟩ := (((hye k hlt).keep (IsQ.solid _) HB0.out).butR H32.out HGR.out hne)
      have HP := Lib.hid (show Qs wr s' p' i1 c' t' q' m' d' (Y k) from hx)
      have HQX := Lib.hid (HQ0.out.i32 H32.out)
      have x0 := HGR.out.cell (HC0.out.at_ 0 rfl) (fun e => by injection e with e; exact HGC.out e)
      have x1 := HGR.out.cell (HC0.out.at_ 1 rfl) (fun e => by injection e with e; exact HGC.out e)
      have x2 := HGR.out.cell (HC0.out.at_ 2 rfl) (fun e => by injection e with e; exact HGC.out e)
      have x3 := HGR.out.cell (HC0.out.at_ 3 rfl) (fun e => by injection e with e; exact HGC.out e)
      have hki : (k : Int) < (N : Int) := by omega
      have HX3 := Lib.hid (show Cells4 wr gc 0 s p n c t q m d from ⟨x0, x1, x2, x3⟩)
      have HA3 := Lib.hid (show Cells4 wr gy (oy + k * 4) s' p' i1 c' t' q' m' d' from ⟨a0, a1, a2, a3⟩)
      clear hye hne hx x0 x1 x2 x3
      go_wp2_with fail
      refine (c_qSignQ s' p' i1 c' t' q' m' d' (Y k) wr HP.out (by have := (HF.out k hlt).2; omega)).mono ?_
      rintro e we ⟨⟨sg, rfl, hsg⟩, hbe⟩
      have HSG := Lib.hid hsg
      have HBE := Lib.hid hbe
      have HROW2 := Lib.hid (QRow.keep (fun j => (IsQ.solid _ : Solid (addQ F Y x k j))) HROW.out hbe)
      have HGR2 := Lib.hid (HGR.out.trans (but_below g hbe))
      have H322 := Lib.hid (H32.out.trans (I32.below hbe))
      have HP2 := Lib.hid (HP.out.keep hbe)
      have HQ2 := Lib.hid (HQX.out.keep hbe)
      have HX4 := Lib.hid (HX3.out.keep hbe)
      have HA4 := Lib.hid (HA3.out.keep hbe)
      clear hsg hbe a0 a1 a2 a3 HROW HGR H32 HP HQX HX3 HA3
      by_cases hz : Y k = 0
      · have h0 : sg = 0 := HSG.out.2 hz
        subst h0
        have hz2 := Lib.hid (show F k + x * Y k = F k by rw [hz]; grind)
        go_wp2
        go_roundw
        case rel => exact ⟨k + 1, by omega, by go_num, addQ.done HROW2.out hz2.out, HGR2.out, H322.out⟩
        case measure => simp [intOf]; omega
      · have h0 : (sg != 0) = true := by
          have : sg ≠ 0 := fun e => hz (HSG.out.1 e)
          simpa using this
        obtain ⟨x0, x1, x2, x3⟩ := HX4.out
        obtain ⟨a0, a1, a2, a3⟩ := HA4.out
        obtain ⟨s5, p5, n5, c5, t5, q5, m5, d5, e0, e1, e2, e3, hy⟩ := addQ.elem HROW2.out hlt
        have HF5 := Lib.hid (show Qs we s5 p5 n5 c5 t5 q5 m5 d5 (F k) from hy)
        have HEE := Lib.hid (show Cells4 we g (k * 4) s5 p5 n5 c5 t5 q5 m5 d5 from ⟨e0, e1, e2, e3⟩)
        have HSM := Lib.hid (show hq (x * Y k) ≤ 200000000 by
          have h1 := hq_mul x (Y k)
          have h2 := HK.out
          have h3 := (HF.out k hlt).2
          omega)
        have HM1 := Lib.hid (fun w1 (hb : Below we.heap.size we w1) => c_qMulQ s p n c t q m d x s' p' i1 c' t' q' m' d' (Y k) w1 (HQ2.out.keep hb) (HP2.out.keep hb) (by have := HK.out; omega) (by have := (HF.out k hlt).2; omega))
        have hra := HROW2.out
        have hn1 := HNE.out
        have hn2 := HGC.out
        have hn3 : g < we.heap.size := hra.sts.1
        clear hy e0 e1 e2 e3
        go_upto_region 5 with (fail)
        have hS1 : we.cell? ⟨gc, 0, none⟩ = some (.bool s) ∧ we.cell? ⟨gc, 1, none⟩ = some (.slice p n c) ∧ we.cell? ⟨gc, 2, none⟩ = some (.bool t) ∧ we.cell? ⟨gc, 3, none⟩ = some (.slice q m d) ∧ we.cell? ⟨gy, oy + k * 4, none⟩ = some (.bool s') ∧ we.cell? ⟨gy, oy + k * 4 + 1, none⟩ = some (.slice p' i1 c') ∧ we.cell? ⟨gy, oy + k * 4 + 2, none⟩ = some (.bool t') ∧ we.cell? ⟨gy, oy + k * 4 + 3, none⟩ = some (.slice q' m' d') ∧ we.cell? ⟨g, k * 4, none⟩ = some (cellOf we ⟨g, k * 4, none⟩) ∧ we.frozen? ⟨g, k * 4, none⟩ = false ∧ Sts we (g) ∧ we.cell? ⟨g, k * 4 + 1, none⟩ = some (cellOf we ⟨g, k * 4 + 1, none⟩) ∧ we.frozen? ⟨g, k * 4 + 1, none⟩ = false ∧ Sts we (g) ∧ we.cell? ⟨g, k * 4 + 2, none⟩ = some (cellOf we ⟨g, k * 4 + 2, none⟩) ∧ we.frozen? ⟨g, k * 4 + 2, none⟩ = false ∧ Sts we (g) ∧ we.cell? ⟨g, k * 4 + 3, none⟩ = some (cellOf we ⟨g, k * 4 + 3, none⟩) ∧ we.frozen? ⟨g, k * 4 + 3, none⟩ = false ∧ Sts we (g) ∧ Below 0 we we ∧ 0 ≤ we.heap.size := ⟨x0, x1, x2, x3, a0, a1, a2, a3, cellOf_some (hra.has _ (by omega)), hra.free _ (by omega), hra.sts, cellOf_some (hra.has _ (by omega)), hra.free _ (by omega), hra.sts, cellOf_some (hra.has _ (by omega)), hra.free _ (by omega), hra.sts, cellOf_some (hra.has _ (by omega)), hra.free _ (by omega), hra.sts, (Below.refl 0 we), Nat.le_trans (Nat.zero_le _) (Below.size (Below.refl 0 we))⟩
        have hS0 : we.drew.cell? ⟨gc, 0, none⟩ = some (.bool s) ∧ we.drew.cell? ⟨gc, 1, none⟩ = some (.slice p n c) ∧ we.drew.cell? ⟨gc, 2, none⟩ = some (.bool t) ∧ we.drew.cell? ⟨gc, 3, none⟩ = some (.slice q m d) ∧ we.drew.cell? ⟨gy, oy + k * 4, none⟩ = some (.bool s') ∧ we.drew.cell? ⟨gy, oy + k * 4 + 1, none⟩ = some (.slice p' i1 c') ∧ we.drew.cell? ⟨gy, oy + k * 4 + 2, none⟩ = some (.bool t') ∧ we.drew.cell? ⟨gy, oy + k * 4 + 3, none⟩ = some (.slice q' m' d') ∧ we.drew.cell? ⟨g, k * 4, none⟩ = some (cellOf we.drew ⟨g, k * 4, none⟩) ∧ we.drew.frozen? ⟨g, k * 4, none⟩ = false ∧ Sts we.drew (g) ∧ we.drew.cell? ⟨g, k * 4 + 1, none⟩ = some (cellOf we.drew ⟨g, k * 4 + 1, none⟩) ∧ we.drew.frozen? ⟨g, k * 4 + 1, none⟩ = false ∧ Sts we.drew (g) ∧ we.drew.cell? ⟨g, k * 4 + 2, none⟩ = some (cellOf we.drew ⟨g, k * 4 + 2, none⟩) ∧ we.drew.frozen? ⟨g, k * 4 + 2, none⟩ = false ∧ Sts we.drew (g) ∧ we.drew.cell? ⟨g, k * 4 + 3, none⟩ = some (cellOf we.drew ⟨g, k * 4 + 3, none⟩) ∧ we.drew.frozen? ⟨g, k * 4 + 3, none⟩ = false ∧ Sts we.drew (g) ∧ Below 0 we we.drew ∧ 0 ≤ we.drew.heap.size := S8_4_next (Below.refl _ we).drew hS1
        clear x0 x1 x2 x3 a0 a1 a2 a3 hra hS1
        have M1 : True := trivial
        refine wp_region_held_drew (S := (fun w1 => w1.cell? ⟨gc, 0, none⟩ = some (.bool s) ∧ w1.cell? ⟨gc, 1, none⟩ = some (.slice p n c) ∧ w1.cell? ⟨gc, 2, none⟩ = some (.bool t) ∧ w1.cell? ⟨gc, 3, none⟩ = some (.slice q m d) ∧ w1.cell? ⟨gy, oy + k * 4, none⟩ = some (.bool s') ∧ w1.cell? ⟨gy, oy + k * 4 + 1, none⟩ = some (.slice p' i1 c') ∧ w1.cell? ⟨gy, oy + k * 4 + 2, none⟩ = some (.bool t') ∧ w1.cell? ⟨gy, oy + k * 4 + 3, none⟩ = some (.slice q' m' d') ∧ w1.cell? ⟨g, k * 4, none⟩ = some (cellOf w1 ⟨g, k * 4, none⟩) ∧ w1.frozen? ⟨g, k * 4, none⟩ = false ∧ Sts w1 (g) ∧ w1.cell? ⟨g, k * 4 + 1, none⟩ = some (cellOf w1 ⟨g, k * 4 + 1, none⟩) ∧ w1.frozen? ⟨g, k * 4 + 1, none⟩ = false ∧ Sts w1 (g) ∧ w1.cell? ⟨g, k * 4 + 2, none⟩ = some (cellOf w1 ⟨g, k * 4 + 2, none⟩) ∧ w1.frozen? ⟨g, k * 4 + 2, none⟩ = false ∧ Sts w1 (g) ∧ w1.cell? ⟨g, k * 4 + 3, none⟩ = some (cellOf w1 ⟨g, k * 4 + 3, none⟩) ∧ w1.frozen? ⟨g, k * 4 + 3, none⟩ = false ∧ Sts w1 (g) ∧ Below 0 we w1 ∧ 0 ≤ w1.heap.size)) (by kernel_rfl) ?_ (fun hHeld0 => ?_)
        focus ((try dsimp only); (first | with_reducible exact hS0 | with_reducible assumption | (refine S8_4_next (by with_reducible assumption) ?_; assumption) | (refine S8_4_put ?_ ?_ ?_ ?_ ?_ ?_ ?_ ?_ ?_ ?_ ?_ ?_ ?_ ?_ ?_ ?_ ?_ ?_ ?_ ?_ ?_ ?_ ?_ ?_ ?_ ?_ ?_ ?_ ?_ ?_ ?_ ?_ ?_ ?_ ?_ ?_ ?_ ?_ ?_ ?_ ?_ <;> first | assumption | exact NotInt.bool _ | exact NotInt.slice _ _ _ | (dsimp only; omega) | (simp; done))))
        refine wpAnyH_take (i := 0) (v := ?_) rfl (by kernel_rfl) (by kernel_rfl) (by kernel_rfl) (fun _ _ _ h => h) (Or.inl ⟨by rfl, ?_⟩) (by assumption) ?_
        rotate_left
        focus (intro w hSw; (try dsimp only at hSw); go_simp; (try with_reducible rfl))
        focus (try simp only [Act.put, List.setIfInBounds_toArray, List.set_cons_zero, List.set_cons_succ])
        refine wpAnyH_take (i := 1) (v := ?_) rfl (by kernel_rfl) (by kernel_rfl) (by kernel_rfl) (fun _ _ _ h => h) (Or.inl ⟨by rfl, ?_⟩) (by assumption) ?_
        rotate_left
        focus (intro w hSw; (try dsimp only at hSw); go_simp; (try with_reducible rfl))
        focus (try simp only [Act.put, List.setIfInBounds_toArray, List.set_cons_zero, List.set_cons_succ])
        refine wpAnyH_take (i := 2) (v := ?_) rfl (by kernel_rfl) (by kernel_rfl) (by kernel_rfl) (fun _ _ _ h => h) (Or.inl ⟨by rfl, ?_⟩) (by assumption) ?_
        rotate_left
        focus (intro w hSw; (try dsimp only at hSw); go_simp; (try with_reducible rfl))
        focus (try simp only [Act.put, List.setIfInBounds_toArray, List.set_cons_zero, List.set_cons_succ])
        refine wpAnyH_take (i := 3) (v := ?_) rfl (by kernel_rfl) (by kernel_rfl) (by kernel_rfl) (fun _ _ _ h => h) (Or.inl ⟨by rfl, ?_⟩) (by assumption) ?_
        rotate_left
        focus (intro w hSw; (try dsimp only at hSw); go_simp; (try with_reducible rfl))
        focus (try simp only [Act.put, List.setIfInBounds_toArray, List.set_cons_zero, List.set_cons_succ])
        refine wpAnyH_take (i := 4) (v := ?_) rfl (by kernel_rfl) (by kernel_rfl) (by kernel_rfl) (fun _ _ _ h => h) (Or.inl ⟨by rfl, ?_⟩) (by assumption) ?_
        rotate_left
        focus (intro w hSw; (try dsimp only at hSw); go_simp; (try with_reducible rfl))
        focus (try simp only [Act.put, List.setIfInBounds_toArray, List.set_cons_zero, List.set_cons_succ])
        refine wpAnyH_take (i := 6) (v := ?_) rfl (by kernel_rfl) (by kernel_rfl) (by kernel_rfl) (fun _ _ _ h => h) (Or.inl ⟨by rfl, ?_⟩) (by assumption) ?_
        rotate_left
        focus (intro w hSw; (try dsimp only at hSw); go_simp; (try with_reducible rfl))
        focus (try simp only [Act.put, List.setIfInBounds_toArray, List.set_cons_zero, List.set_cons_succ])
        refine wpAnyH_take (i := 7) (v := ?_) rfl (by kernel_rfl) (by kernel_rfl) (by kernel_rfl) (fun _ _ _ h => h) (Or.inl ⟨by rfl, ?_⟩) (by assumption) ?_
        rotate_left
        focus (intro w hSw; (try dsimp only at hSw); go_simp; (try with_reducible rfl))
        focus (try simp only [Act.put, List.setIfInBounds_toArray, List.set_cons_zero, List.set_cons_succ])
        refine wpAnyH_take (i := 8) (v := ?_) rfl (by kernel_rfl) (by kernel_rfl) (by kernel_rfl) (fun _ _ _ h => h) (Or.inl ⟨by rfl, ?_⟩) (by assumption) ?_
        rotate_left
        focus (intro w hSw; (try dsimp only at hSw); go_simp; (try with_reducible rfl))
        focus (try simp only [Act.put, List.setIfInBounds_toArray, List.set_cons_zero, List.set_cons_succ])
        refine wpAnyH_take (i := 9) (v := ?_) rfl (by kernel_rfl) (by kernel_rfl) (by kernel_rfl) (fun _ _ _ h => h) (Or.inl ⟨by rfl, ?_⟩) (by assumption) ?_
        rotate_left
        focus (intro w hSw; (try dsimp only at hSw); go_simp; (try with_reducible rfl))
        focus (try simp only [Act.put, List.setIfInBounds_toArray, List.set_cons_zero, List.set_cons_succ])
        refine wpAnyH_take (i := 10) (v := ?_) rfl (by kernel_rfl) (by kernel_rfl) (by kernel_rfl) (fun _ _ _ h => h) (Or.inl ⟨by rfl, ?_⟩) (by assumption) ?_
        rotate_left
        focus (intro w hSw; (try dsimp only at hSw); go_simp; (try with_reducible rfl))
        focus (try simp only [Act.put, List.setIfInBounds_toArray, List.set_cons_zero, List.set_cons_succ])
        refine wpAnyH_ready (rs := [5, 11]) (by kernel_rfl) (by simp) ?_
        refine AllReadyH.cons rfl (fun K hK => ?_) ?_
        focus (go_simp; refine hK.out _ _ ?_ (fun hHeld1 => ?_))
        focus ((try dsimp only); (first | with_reducible exact hS0 | with_reducible assumption | (refine S8_4_next (by with_reducible assumption) ?_; assumption) | (refine S8_4_put ?_ ?_ ?_ ?_ ?_ ?_ ?_ ?_ ?_ ?_ ?_ ?_ ?_ ?_ ?_ ?_ ?_ ?_ ?_ ?_ ?_ ?_ ?_ ?_ ?_ ?_ ?_ ?_ ?_ ?_ ?_ ?_ ?_ ?_ ?_ ?_ ?_ ?_ ?_ ?_ ?_ <;> first | assumption | exact NotInt.bool _ | exact NotInt.slice _ _ _ | (dsimp only; omega) | (simp; done))))
        focus (clear hK K hHeld0; (try simp only [Act.put, List.setIfInBounds_toArray, List.set_cons_zero, List.set_cons_succ]))
        refine wpAnyH_ready (rs := [11]) (by kernel_rfl) (by simp) ?_
        refine AllReadyH.cons rfl (fun K hK => ?_) ?_
        focus (go_simp; (first | (go_at_call 38; refine (HM1.out _ (by first | exact (Below.refl _ _).drew | exact Below.refl _ _)).mono ?_; rintro e w2 ⟨⟨s3, p3, n3, c3, t3, q3, m3, d3, rfl, hz3⟩, hb3⟩; have HB3 := Lib.hid (show Below we.heap.size we w2 from (by first | exact (Below.refl _ we).drew.trans hb3 | exact hb3)); have HZ3 := Lib.hid hz3; have HEE2 := Lib.hid (HEE.out.keep HB3.out); have HEE1 := Lib.hid (show Cells4 we.drew g (k * 4) s5 p5 n5 c5 t5 q5 m5 d5 from HEE.out); clear hz3) | (go_at_call 76; (first | rw [cellOf_eq HEE2.out.1, cellOf_eq HEE2.out.2.1, cellOf_eq HEE2.out.2.2.1, cellOf_eq HEE2.out.2.2.2] | rw [cellOf_eq HEE1.out.1, cellOf_eq HEE1.out.2.1, cellOf_eq HEE1.out.2.2.1, cellOf_eq HEE1.out.2.2.2]); refine (c_qAddQ s5 p5 n5 c5 t5 q5 m5 d5 (F k) s3 p3 n3 c3 t3 q3 m3 d3 (x * Y k) _ (HF5.out.keep HB3.out) HZ3.out (by have := (HF.out k hlt).1; omega) (by have := HSM.out; omega)).mono ?_; rintro e w4 ⟨⟨s6, p6, n6, c6, t6, q6, m6, d6, rfl, hz6⟩, hb6⟩; have hbe : Below we.heap.size we w4 := HB3.out.trans (hb6.mono HB3.out.size); have hrr := QRow.keep (fun j => (IsQ.solid _ : Solid (addQ F Y x k j))) HROW2.out hbe; have HPUT := Lib.hid (addQ.put hrr hlt hz6); have HG4 := Lib.hid (show ∀ v0 v1 v2 v3, w0.grownBy ((((w4.setCell ⟨g, k * 4, none⟩ v0).setCell ⟨g, k * 4 + 1, none⟩ v1).setCell ⟨g, k * 4 + 2, none⟩ v2).setCell ⟨g, k * 4 + 3, none⟩ v3) (some g) from fun _ _ _ _ => add_grown HGR2.out hbe); have H4 := Lib.hid (show I32 w0 ((((w4.setCell ⟨g, k * 4, none⟩ (.bool s6)).setCell ⟨g, k * 4 + 1, none⟩ (.slice p6 n6 c6)).setCell ⟨g, k * 4 + 2, none⟩ (.bool t6)).setCell ⟨g, k * 4 + 3, none⟩ (.slice q6 m6 d6)) from (H322.out.trans (I32.below hbe)).trans (I32.put4 hrr.sts _ _ _ _ _ _ _ _ (NotInt.bool _) (NotInt.slice _ _ _) (NotInt.bool _))); clear hz6 hbe hb3 hrr)); (first | done | with_reducible refine hK.out _ _ ?_ (fun hHeld2 => ?_) | (go_wp2_with fail; with_reducible refine hK.out _ _ ?_ (fun hHeld2 => ?_))))
        focus ((try dsimp only); (first | with_reducible exact hS0 | with_reducible assumption | (refine S8_4_next (by with_reducible assumption) ?_; assumption) | (refine S8_4_put ?_ ?_ ?_ ?_ ?_ ?_ ?_ ?_ ?_ ?_ ?_ ?_ ?_ ?_ ?_ ?_ ?_ ?_ ?_ ?_ ?_ ?_ ?_ ?_ ?_ ?_ ?_ ?_ ?_ ?_ ?_ ?_ ?_ ?_ ?_ ?_ ?_ ?_ ?_ ?_ ?_ <;> first | assumption | exact NotInt.bool _ | exact NotInt.slice _ _ _ | (dsimp only; omega) | (simp; done))))
        focus (clear hK K hHeld1; (try simp only [Act.put, List.setIfInBounds_toArray, List.set_cons_zero, List.set_cons_succ]))
        refine wpAnyH_ready (rs := [12]) (by kernel_rfl) (by simp) ?_
        refine AllReadyH.cons rfl (fun K hK => ?_) ?_
        focus (go_simp; (first | (go_at_call 38; refine (HM1.out _ (by first | exact (Below.refl _ _).drew | exact Below.refl _ _)).mono ?_; rintro e w2 ⟨⟨s3, p3, n3, c3, t3, q3, m3, d3, rfl, hz3⟩, hb3⟩; have HB3 := Lib.hid (show Below we.heap.size we w2 from (by first | exact (Below.refl _ we).drew.trans hb3 | exact hb3)); have HZ3 := Lib.hid hz3; have HEE2 := Lib.hid (HEE.out.keep HB3.out); have HEE1 := Lib.hid (show Cells4 we.drew g (k * 4) s5 p5 n5 c5 t5 q5 m5 d5 from HEE.out); clear hz3) | (go_at_call 76; (first | rw [cellOf_eq HEE2.out.1, cellOf_eq HEE2.out.2.1, cellOf_eq HEE2.out.2.2.1, cellOf_eq HEE2.out.2.2.2] | rw [cellOf_eq HEE1.out.1, cellOf_eq HEE1.out.2.1, cellOf_eq HEE1.out.2.2.1, cellOf_eq HEE1.out.2.2.2]); refine (c_qAddQ s5 p5 n5 c5 t5 q5 m5 d5 (F k) s3 p3 n3 c3 t3 q3 m3 d3 (x * Y k) _ (HF5.out.keep HB3.out) HZ3.out (by have := (HF.out k hlt).1; omega) (by have := HSM.out; omega)).mono ?_; rintro e w4 ⟨⟨s6, p6, n6, c6, t6, q6, m6, d6, rfl, hz6⟩, hb6⟩; have hbe : Below we.heap.size we w4 := HB3.out.trans (hb6.mono HB3.out.size); have hrr := QRow.keep (fun j => (IsQ.solid _ : Solid (addQ F Y x k j))) HROW2.out hbe; have HPUT := Lib.hid (addQ.put hrr hlt hz6); have HG4 := Lib.hid (show ∀ v0 v1 v2 v3, w0.grownBy ((((w4.setCell ⟨g, k * 4, none⟩ v0).setCell ⟨g, k * 4 + 1, none⟩ v1).setCell ⟨g, k * 4 + 2, none⟩ v2).setCell ⟨g, k * 4 + 3, none⟩ v3) (some g) from fun _ _ _ _ => add_grown HGR2.out hbe); have H4 := Lib.hid (show I32 w0 ((((w4.setCell ⟨g, k * 4, none⟩ (.bool s6)).setCell ⟨g, k * 4 + 1, none⟩ (.slice p6 n6 c6)).setCell ⟨g, k * 4 + 2, none⟩ (.bool t6)).setCell ⟨g, k * 4 + 3, none⟩ (.slice q6 m6 d6)) from (H322.out.trans (I32.below hbe)).trans (I32.put4 hrr.sts _ _ _ _ _ _ _ _ (NotInt.bool _) (NotInt.slice _ _ _) (NotInt.bool _))); clear hz6 hbe hb3 hrr)); (first | done | with_reducible refine hK.out _ _ ?_ (fun hHeld3 => ?_) | (go_wp2_with fail; with_reducible refine hK.out _ _ ?_ (fun hHeld3 => ?_))))
        focus ((try dsimp only); (first | with_reducible exact hS0 | with_reducible assumption | (refine S8_4_next (by with_reducible assumption) ?_; assumption) | (refine S8_4_put ?_ ?_ ?_ ?_ ?_ ?_ ?_ ?_ ?_ ?_ ?_ ?_ ?_ ?_ ?_ ?_ ?_ ?_ ?_ ?_ ?_ ?_ ?_ ?_ ?_ ?_ ?_ ?_ ?_ ?_ ?_ ?_ ?_ ?_ ?_ ?_ ?_ ?_ ?_ ?_ ?_ <;> first | assumption | exact NotInt.bool _ | exact NotInt.slice _ _ _ | (dsimp only; omega) | (simp; done))))
        focus (clear hK K hHeld2; (try simp only [Act.put, List.setIfInBounds_toArray, List.set_cons_zero, List.set_cons_succ]))
        refine wpAnyH_take (i := 13) (v := ?_) rfl (by kernel_rfl) (by kernel_rfl) (by kernel_rfl) (fun _ _ _ h => h) (Or.inl ⟨by rfl, ?_⟩) (by assumption) ?_
        rotate_left
        focus (intro w hSw; (try dsimp only at hSw); go_simp; (try with_reducible rfl))
        focus (try simp only [Act.put, List.setIfInBounds_toArray, List.set_cons_zero, List.set_cons_succ])
        refine wpAnyH_ready (rs := [14]) (by kernel_rfl) (by simp) ?_
        refine AllReadyH.cons rfl (fun K hK => ?_) ?_
        focus (go_simp; refine hK.out _ _ ?_ (fun hHeld4 => ?_))
        focus ((try dsimp only); (first | with_reducible exact hS0 | with_reducible assumption | (refine S8_4_next (by with_reducible assumption) ?_; assumption) | (refine S8_4_put ?_ ?_ ?_ ?_ ?_ ?_ ?_ ?_ ?_ ?_ ?_ ?_ ?_ ?_ ?_ ?_ ?_ ?_ ?_ ?_ ?_ ?_ ?_ ?_ ?_ ?_ ?_ ?_ ?_ ?_ ?_ ?_ ?_ ?_ ?_ ?_ ?_ ?_ ?_ ?_ ?_ <;> first | assumption | exact NotInt.bool _ | exact NotInt.slice _ _ _ | (dsimp only; omega) | (simp; done))))
        focus (clear hK K hHeld3; (try simp only [Act.put, List.setIfInBounds_toArray, List.set_cons_zero, List.set_cons_succ]))
        focus (refine wpAnyH_done (by kernel_rfl) ?_ _)
        rotate_left
        exact AllReadyH.nil
        exact AllReadyH.nil
        exact AllReadyH.nil
        refine AllReadyH.cons rfl (fun K hK => ?_) ?_
        focus (go_simp; (first | (go_at_call 38; refine (HM1.out _ (by first | exact (Below.refl _ _).drew | exact Below.refl _ _)).mono ?_; rintro e w2 ⟨⟨s3, p3, n3, c3, t3, q3, m3, d3, rfl, hz3⟩, hb3⟩; have HB3 := Lib.hid (show Below we.heap.size we w2 from (by first | exact (Below.refl _ we).drew.trans hb3 | exact hb3)); have HZ3 := Lib.hid hz3; have HEE2 := Lib.hid (HEE.out.keep HB3.out); have HEE1 := Lib.hid (show Cells4 we.drew g (k * 4) s5 p5 n5 c5 t5 q5 m5 d5 from HEE.out); clear hz3) | (go_at_call 76; (first | rw [cellOf_eq HEE2.out.1, cellOf_eq HEE2.out.2.1, cellOf_eq HEE2.out.2.2.1, cellOf_eq HEE2.out.2.2.2] | rw [cellOf_eq HEE1.out.1, cellOf_eq HEE1.out.2.1, cellOf_eq HEE1.out.2.2.1, cellOf_eq HEE1.out.2.2.2]); refine (c_qAddQ s5 p5 n5 c5 t5 q5 m5 d5 (F k) s3 p3 n3 c3 t3 q3 m3 d3 (x * Y k) _ (HF5.out.keep HB3.out) HZ3.out (by have := (HF.out k hlt).1; omega) (by have := HSM.out; omega)).mono ?_; rintro e w4 ⟨⟨s6, p6, n6, c6, t6, q6, m6, d6, rfl, hz6⟩, hb6⟩; have hbe : Below we.heap.size we w4 := HB3.out.trans (hb6.mono HB3.out.size); have hrr := QRow.keep (fun j => (IsQ.solid _ : Solid (addQ F Y x k j))) HROW2.out hbe; have HPUT := Lib.hid (addQ.put hrr hlt hz6); have HG4 := Lib.hid (show ∀ v0 v1 v2 v3, w0.grownBy ((((w4.setCell ⟨g, k * 4, none⟩ v0).setCell ⟨g, k * 4 + 1, none⟩ v1).setCell ⟨g, k * 4 + 2, none⟩ v2).setCell ⟨g, k * 4 + 3, none⟩ v3) (some g) from fun _ _ _ _ => add_grown HGR2.out hbe); have H4 := Lib.hid (show I32 w0 ((((w4.setCell ⟨g, k * 4, none⟩ (.bool s6)).setCell ⟨g, k * 4 + 1, none⟩ (.slice p6 n6 c6)).setCell ⟨g, k * 4 + 2, none⟩ (.bool t6)).setCell ⟨g, k * 4 + 3, none⟩ (.slice q6 m6 d6)) from (H322.out.trans (I32.below hbe)).trans (I32.put4 hrr.sts _ _ _ _ _ _ _ _ (NotInt.bool _) (NotInt.slice _ _ _) (NotInt.bool _))); clear hz6 hbe hb3 hrr)); (first | done | with_reducible refine hK.out _ _ ?_ (fun hHeld1 => ?_) | (go_wp2_with fail; with_reducible refine hK.out _ _ ?_ (fun hHeld1 => ?_))))
        focus ((try dsimp only); (first | with_reducible exact hS0 | with_reducible assumption | (refine S8_4_next (by with_reducible assumption) ?_; assumption) | (refine S8_4_put ?_ ?_ ?_ ?_ ?_ ?_ ?_ ?_ ?_ ?_ ?_ ?_ ?_ ?_ ?_ ?_ ?_ ?_ ?_ ?_ ?_ ?_ ?_ ?_ ?_ ?_ ?_ ?_ ?_ ?_ ?_ ?_ ?_ ?_ ?_ ?_ ?_ ?_ ?_ ?_ ?_ <;> first | assumption | exact NotInt.bool _ | exact NotInt.slice _ _ _ | (dsimp only; omega) | (simp; done))))
        focus (clear hK K hHeld0; (try simp only [Act.put, List.setIfInBounds_toArray, List.set_cons_zero, List.set_cons_succ]))
        refine wpAnyH_ready (rs := [5]) (by kernel_rfl) (by simp) ?_
        refine AllReadyH.cons rfl (fun K hK => ?_) ?_
        focus (go_simp; refine hK.out _ _ ?_ (fun hHeld2 => ?_))
        focus ((try dsimp only); (first | with_reducible exact hS0 | with_reducible assumption | (refine S8_4_next (by with_reducible assumption) ?_; assumption) | (refine S8_4_put ?_ ?_ ?_ ?_ ?_ ?_ ?_ ?_ ?_ ?_ ?_ ?_ ?_ ?_ ?_ ?_ ?_ ?_ ?_ ?_ ?_ ?_ ?_ ?_ ?_ ?_ ?_ ?_ ?_ ?_ ?_ ?_ ?_ ?_ ?_ ?_ ?_ ?_ ?_ ?_ ?_ <;> first | assumption | exact NotInt.bool _ | exact NotInt.slice _ _ _ | (dsimp only; omega) | (simp; done))))
        focus (clear hK K hHeld1; (try simp only [Act.put, List.setIfInBounds_toArray, List.set_cons_zero, List.set_cons_succ]))
        refine wpAnyH_ready (rs := [12]) (by kernel_rfl) (by simp) ?_
        refine AllReadyH.cons rfl (fun K hK => ?_) ?_
        focus (go_simp; (first | (go_at_call 38; refine (HM1.out _ (by first | exact (Below.refl _ _).drew | exact Below.refl _ _)).mono ?_; rintro e w2 ⟨⟨s3, p3, n3, c3, t3, q3, m3, d3, rfl, hz3⟩, hb3⟩; have HB3 := Lib.hid (show Below we.heap.size we w2 from (by first | exact (Below.refl _ we).drew.trans hb3 | exact hb3)); have HZ3 := Lib.hid hz3; have HEE2 := Lib.hid (HEE.out.keep HB3.out); have HEE1 := Lib.hid (show Cells4 we.drew g (k * 4) s5 p5 n5 c5 t5 q5 m5 d5 from HEE.out); clear hz3) | (go_at_call 76; (first | rw [cellOf_eq HEE2.out.1, cellOf_eq HEE2.out.2.1, cellOf_eq HEE2.out.2.2.1, cellOf_eq HEE2.out.2.2.2] | rw [cellOf_eq HEE1.out.1, cellOf_eq HEE1.out.2.1, cellOf_eq HEE1.out.2.2.1, cellOf_eq HEE1.out.2.2.2]); refine (c_qAddQ s5 p5 n5 c5 t5 q5 m5 d5 (F k) s3 p3 n3 c3 t3 q3 m3 d3 (x * Y k) _ (HF5.out.keep HB3.out) HZ3.out (by have := (HF.out k hlt).1; omega) (by have := HSM.out; omega)).mono ?_; rintro e w4 ⟨⟨s6, p6, n6, c6, t6, q6, m6, d6, rfl, hz6⟩, hb6⟩; have hbe : Below we.heap.size we w4 := HB3.out.trans (hb6.mono HB3.out.size); have hrr := QRow.keep (fun j => (IsQ.solid _ : Solid (addQ F Y x k j))) HROW2.out hbe; have HPUT := Lib.hid (addQ.put hrr hlt hz6); have HG4 := Lib.hid (show ∀ v0 v1 v2 v3, w0.grownBy ((((w4.setCell ⟨g, k * 4, none⟩ v0).setCell ⟨g, k * 4 + 1, none⟩ v1).setCell ⟨g, k * 4 + 2, none⟩ v2).setCell ⟨g, k * 4 + 3, none⟩ v3) (some g) from fun _ _ _ _ => add_grown HGR2.out hbe); have H4 := Lib.hid (show I32 w0 ((((w4.setCell ⟨g, k * 4, none⟩ (.bool s6)).setCell ⟨g, k * 4 + 1, none⟩ (.slice p6 n6 c6)).setCell ⟨g, k * 4 + 2, none⟩ (.bool t6)).setCell ⟨g, k * 4 + 3, none⟩ (.slice q6 m6 d6)) from (H322.out.trans (I32.below hbe)).trans (I32.put4 hrr.sts _ _ _ _ _ _ _ _ (NotInt.bool _) (NotInt.slice _ _ _) (NotInt.bool _))); clear hz6 hbe hb3 hrr)); (first | done | with_reducible refine hK.out _ _ ?_ (fun hHeld3 => ?_) | (go_wp2_with fail; with_reducible refine hK.out _ _ ?_ (fun hHeld3 => ?_))))
        focus ((try dsimp only); (first | with_reducible exact hS0 | with_reducible assumption | (refine S8_4_next (by with_reducible assumption) ?_; assumption) | (refine S8_4_put ?_ ?_ ?_ ?_ ?_ ?_ ?_ ?_ ?_ ?_ ?_ ?_ ?_ ?_ ?_ ?_ ?_ ?_ ?_ ?_ ?_ ?_ ?_ ?_ ?_ ?_ ?_ ?_ ?_ ?_ ?_ ?_ ?_ ?_ ?_ ?_ ?_ ?_ ?_ ?_ ?_ <;> first | assumption | exact NotInt.bool _ | exact NotInt.slice _ _ _ | (dsimp only; omega) | (simp; done))))
        focus (clear hK K hHeld2; (try simp only [Act.put, List.setIfInBounds_toArray, List.set_cons_zero, List.set_cons_succ]))
        refine wpAnyH_take (i := 13) (v := ?_) rfl (by kernel_rfl) (by kernel_rfl) (by kernel_rfl) (fun _ _ _ h => h) (Or.inl ⟨by rfl, ?_⟩) (by assumption) ?_
        rotate_left
        focus (intro w hSw; (try dsimp only at hSw); go_simp; (try with_reducible rfl))
        focus (try simp only [Act.put, List.setIfInBounds_toArray, List.set_cons_zero, List.set_cons_succ])
        refine wpAnyH_ready (rs := [14]) (by kernel_rfl) (by simp) ?_
        refine AllReadyH.cons rfl (fun K hK => ?_) ?_
        focus (go_simp; refine hK.out _ _ ?_ (fun hHeld4 => ?_))
        focus ((try dsimp only); (first | with_reducible exact hS0 | with_reducible assumption | (refine S8_4_next (by with_reducible assumption) ?_; assumption) | (refine S8_4_put ?_ ?_ ?_ ?_ ?_ ?_ ?_ ?_ ?_ ?_ ?_ ?_ ?_ ?_ ?_ ?_ ?_ ?_ ?_ ?_ ?_ ?_ ?_ ?_ ?_ ?_ ?_ ?_ ?_ ?_ ?_ ?_ ?_ ?_ ?_ ?_ ?_ ?_ ?_ ?_ ?_ <;> first | assumption | exact NotInt.bool _ | exact NotInt.slice _ _ _ | (dsimp only; omega) | (simp; done))))
        focus (clear hK K hHeld3; (try simp only [Act.put, List.setIfInBounds_toArray, List.set_cons_zero, List.set_cons_succ]))
        focus (refine wpAnyH_done (by kernel_rfl) ?_ _)
        rotate_left
        exact AllReadyH.nil
        exact AllReadyH.nil
        exact AllReadyH.nil
        exact AllReadyH.nil
        all_goals clear HROW2 HGR2 H322
        all_goals go_wp2
        all_goals go_roundw
        all_goals first
          | exact ⟨k + 1, by omega, by go_num, HPUT.out, HG4.out _ _ _ _, H4.out⟩
          | (simp [intOf]; omega)
    · obtain rfl : k = N := by omega
      go_wp2
      go_end0
      exact ⟨⟨_, rfl⟩, QRow.congr HROW.out (fun j hj => by unfold addQ; rw [if_pos hj]), (but_below g HB0.out).trans HGR.out, (I32.below HB0.out).trans H32.out⟩
end Go.Proofs.YthikonjlgljikaaGreatDoor
