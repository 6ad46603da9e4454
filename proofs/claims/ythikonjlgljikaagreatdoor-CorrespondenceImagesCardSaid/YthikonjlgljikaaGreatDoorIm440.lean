/- Contracts of the statement's helpers: Same (equal lists of paths), Far. The statement's function CorrespondenceImages returns true. -/
import Derived.Test.YthikonjlgljikaaGreatDoorIm439
namespace Go.Proofs.YthikonjlgljikaaGreatDoor
open Go.RowKit

theorem S10_0_next {B : Nat} {w0 w w' : World} {a0 a1 a2 a3 a4 a5 a6 a7 a8 a9 : Addr} {v0 v1 v2 v3 v4 v5 v6 v7 v8 v9 : Value} (hb : Below w.heap.size w w') (h : w.cell? a0 = some v0 ∧ w.cell? a1 = some v1 ∧ w.cell? a2 = some v2 ∧ w.cell? a3 = some v3 ∧ w.cell? a4 = some v4 ∧ w.cell? a5 = some v5 ∧ w.cell? a6 = some v6 ∧ w.cell? a7 = some v7 ∧ w.cell? a8 = some v8 ∧ w.cell? a9 = some v9 ∧ Below B w0 w ∧ B ≤ w.heap.size) : w'.cell? a0 = some v0 ∧ w'.cell? a1 = some v1 ∧ w'.cell? a2 = some v2 ∧ w'.cell? a3 = some v3 ∧ w'.cell? a4 = some v4 ∧ w'.cell? a5 = some v5 ∧ w'.cell? a6 = some v6 ∧ w'.cell? a7 = some v7 ∧ w'.cell? a8 = some v8 ∧ w'.cell? a9 = some v9 ∧ Below B w0 w' ∧ B ≤ w'.heap.size := SS.next (B := B) (w0 := w0) (l := [(a0, v0), (a1, v1), (a2, v2), (a3, v3), (a4, v4), (a5, v5), (a6, v6), (a7, v7), (a8, v8), (a9, v9)]) (m := []) hb h
theorem S10_0_below {B : Nat} {w0 w : World} {a0 a1 a2 a3 a4 a5 a6 a7 a8 a9 : Addr} {v0 v1 v2 v3 v4 v5 v6 v7 v8 v9 : Value} (h : w.cell? a0 = some v0 ∧ w.cell? a1 = some v1 ∧ w.cell? a2 = some v2 ∧ w.cell? a3 = some v3 ∧ w.cell? a4 = some v4 ∧ w.cell? a5 = some v5 ∧ w.cell? a6 = some v6 ∧ w.cell? a7 = some v7 ∧ w.cell? a8 = some v8 ∧ w.cell? a9 = some v9 ∧ Below B w0 w ∧ B ≤ w.heap.size) : Below B w0 w := SS.below (B := B) (w0 := w0) (l := [(a0, v0), (a1, v1), (a2, v2), (a3, v3), (a4, v4), (a5, v5), (a6, v6), (a7, v7), (a8, v8), (a9, v9)]) (m := []) h

/-- A list of paths that is read. -/
def PLs (F : Nat → Nat → Rat) (X Y : Nat → Int × Int) (w : World) (v : Value) (k n : Nat) : Prop :=
  (k = 0 ∧ ∃ a c, v = .slice a 0 c) ∨ ∃ g0 c0, v = .slice (some ⟨g0, 0, none⟩) k c0 ∧ g0 < w.heap.size ∧ ∀ i, i < k → ∃ g cap, w.cell? ⟨g0, i * 5, none⟩ = some (.slice (some ⟨g, 0, none⟩) n cap) ∧ w.cell? ⟨g0, i * 5 + 1, none⟩ = some (.int .i64 (X i).1) ∧ w.cell? ⟨g0, i * 5 + 2, none⟩ = some (.int .i64 (X i).2) ∧ w.cell? ⟨g0, i * 5 + 3, none⟩ = some (.int .i64 (Y i).1) ∧ w.cell? ⟨g0, i * 5 + 4, none⟩ = some (.int .i64 (Y i).2) ∧ QRow (fun j => IsQ (F i j)) w g n n
theorem OwnP.pls {F : Nat → Nat → Rat} {X Y : Nat → Int × Int} {w : World} {B k n : Nat} {v : Value} (h : OwnP F X Y w B v k n) : PLs F X Y w v k n := by
  obtain ⟨_, xs, h1, h2⟩ := h
  rcases own_shape h1.1 with ⟨rfl, rfl, _⟩ | ⟨g0, c0, rfl, _, hg, _⟩
  · exact .inl ⟨rfl, _, _, rfl⟩
  · refine .inr ⟨g0, c0, rfl, hg, fun i hi => ?_⟩
    obtain ⟨g, cap, e0, e1, e2, e3, e4, e5⟩ := h2 i hi
    exact ⟨g, cap, own_read h1.1 e0, own_read h1.1 e1, own_read h1.1 e2, own_read h1.1 e3, own_read h1.1 e4, e5⟩
theorem PLs.keep {F : Nat → Nat → Rat} {X Y : Nat → Int × Int} {w w' : World} {k n : Nat} {v : Value} (h : PLs F X Y w v k n) (hb : Below w.heap.size w w') : PLs F X Y w' v k n := by
  rcases h with h | ⟨g0, c0, e, hg, hc⟩
  · exact .inl h
  · refine .inr ⟨g0, c0, e, Nat.lt_of_lt_of_le hg hb.size, fun i hi => ?_⟩
    obtain ⟨g, cap, e0, e1, e2, e3, e4, e5⟩ := hc i hi
    have hk : ∀ j v, w.cell? ⟨g0, j, none⟩ = some v → w'.cell? ⟨g0, j, none⟩ = some v := fun j v e => (hb.cell (p := ⟨g0, j, none⟩) hg).trans e
    exact ⟨g, cap, hk _ _ e0, hk _ _ e1, hk _ _ e2, hk _ _ e3, hk _ _ e4, e5.keep (fun _ => IsQ.solid _) hb⟩
theorem hq_imF {Q : Nat → Rat} {len : Nat} {x : Pl.Cos} (hQ : ∀ i, i < len → hq (Q i) ≤ 4) (hl : len ≤ 30) (hx : CosOk x) (j : Nat) : hq (imF Q len x j) ≤ 5000 := by
  obtain ⟨⟨h1, h2⟩, h3, ⟨h4, h5⟩, h6, h7⟩ := hx
  have h := hq_subst (q := Q) (w := len - 1) (n := len) (j := j) (a := (x.1.2.2 : Nat)) (b := -(x.1.2.1 : Nat)) (c := -0) (d := (x.1.1 : Nat)) hQ (nd64 (by omega) (by omega)) (nd64 (by omega) (by omega)) (nd64 (by omega) (by omega)) (nd64 (by omega) (by omega)) (by omega) hl
  have h8 := hq_mul (x.2 : Rat) (subst Q (len - 1) (x.1.2.2 : Nat) (-(x.1.2.1 : Nat)) (-0) (x.1.1 : Nat) len j)
  have h9 := nd64 (a := x.2) (by omega) (by omega)
  rw [hq_int] at h8
  unfold imF
  omega
set_option maxHeartbeats 8000000 in
set_option maxRecDepth 100000 in
theorem c_SameP_eq (v1 v2 : Value) (k n : Nat) (F : Nat → Nat → Rat) (X Y : Nat → Int × Int) (w : World) (h1 : PLs F X Y w v1 k n) (h2 : PLs F X Y w v2 k n) (hk : k ≤ 1000000) (hn : n ≤ 1000000) (hf : ∀ i, i < k → ∀ j, j < n → hq (F i j) ≤ 1000000) :
    Calls Tryz.prog 16 #[v1, v2] w fun e w' => e = .returned (.bool true) ∧ Below w.heap.size w w' := by
  rcases Nat.eq_zero_or_pos k with rfl | hpos
  · have e1 : ∃ a c, v1 = .slice a 0 c := by
      rcases h1 with ⟨_, h⟩ | ⟨_, _, e, _⟩
      · exact h
      · exact ⟨_, _, e⟩
    have e2 : ∃ a c, v2 = .slice a 0 c := by
      rcases h2 with ⟨_, h⟩ | ⟨_, _, e, _⟩
      · exact h
      · exact ⟨_, _, e⟩
    obtain ⟨a1, c1, rfl⟩ := e1
    obtain ⟨a2, c2, rfl⟩ := e2
    clear h1 h2 hf hn
    go_enter Tryz.func16, Tryz.ntmps16
    go_wp2
    go_loopw [5] (fun i wr => i = .int .i64 0 ∧ wr = w) (fun _ _ => 0)
    case atStart => exact ⟨rfl, rfl⟩
    case round =>
      obtain ⟨rfl, rfl⟩ := hrel
      go_wp2
      go_ret
      exact ⟨rfl, Below.refl _ _⟩
  · obtain ⟨g1, l1, rfl, hg1, r1⟩ := h1.resolve_left (fun h => by omega)
    obtain ⟨g2, l2, rfl, hg2, r2⟩ := h2.resolve_left (fun h => by omega)
    have R1 := Lib.hid r1
    have R2 := Lib.hid r2
    have HF := Lib.hid hf
    clear h1 h2 r1 r2 hf
    go_enter Tryz.func16, Tryz.ntmps16
    go_wp2
    go_loopw [5] (fun i wr => ∃ i' : Nat, i' ≤ k ∧ i = .int .i64 i' ∧ Below w.heap.size w wr) (fun i _ => k - (intOf i).toNat)
    case atStart => exact ⟨0, Nat.zero_le _, rfl, Below.refl _ _⟩
    case round =>
      obtain ⟨i, hi, rfl, hb⟩ := hrel
      by_cases hlt : i < k
      · have HB := Lib.hid hb
        obtain ⟨ga, ca, a0, a1, a2, a3, a4, ar⟩ := R1.out i hlt
        obtain ⟨gb, cb, b0, b1, b2, b3, b4, br⟩ := R2.out i hlt
        have HC := Lib.hid (fun w1 (h : Below wr.heap.size wr w1) => c_SameRats_eq (.slice (some ⟨ga, 0, none⟩) n ca) (.slice (some ⟨gb, 0, none⟩) n cb) n (F i) w1 (((QRow.keep (fun _ => IsQ.solid _) (ar.keep (fun _ => IsQ.solid _) hb) h)).ql ca) (((QRow.keep (fun _ => IsQ.solid _) (br.keep (fun _ => IsQ.solid _) hb) h)).ql cb) (by omega) (fun j hj => by have := HF.out i hlt j hj; omega))
        generalize (X i).1 = x1 at a1 b1
        generalize (X i).2 = x2 at a2 b2
        generalize (Y i).1 = x3 at a3 b3
        generalize (Y i).2 = x4 at a4 b4
        replace a0 := (hb.cell (p := ⟨g1, i * 5, none⟩) hg1).trans a0
        replace a1 := (hb.cell (p := ⟨g1, i * 5 + 1, none⟩) hg1).trans a1
        replace a2 := (hb.cell (p := ⟨g1, i * 5 + 2, none⟩) hg1).trans a2
        replace a3 := (hb.cell (p := ⟨g1, i * 5 + 3, none⟩) hg1).trans a3
        replace a4 := (hb.cell (p := ⟨g1, i * 5 + 4, none⟩) hg1).trans a4
        replace b0 := (hb.cell (p := ⟨g2, i * 5, none⟩) hg2).trans b0
        replace b1 := (hb.cell (p := ⟨g2, i * 5 + 1, none⟩) hg2).trans b1
        replace b2 := (hb.cell (p := ⟨g2, i * 5 + 2, none⟩) hg2).trans b2
        replace b3 := (hb.cell (p := ⟨g2, i * 5 + 3, none⟩) hg2).trans b3
        replace b4 := (hb.cell (p := ⟨g2, i * 5 + 4, none⟩) hg2).trans b4
        have hii : (i : Int) < (k : Int) := by omega
        clear ar br hb
        go_upto_region 6 with (fail)
        have hS1 : wr.cell? ⟨g1, i * 5, none⟩ = some (.slice (some ⟨ga, 0, none⟩) n ca) ∧ wr.cell? ⟨g1, i * 5 + 1, none⟩ = some (.int .i64 x1) ∧ wr.cell? ⟨g1, i * 5 + 2, none⟩ = some (.int .i64 x2) ∧ wr.cell? ⟨g1, i * 5 + 3, none⟩ = some (.int .i64 x3) ∧ wr.cell? ⟨g1, i * 5 + 4, none⟩ = some (.int .i64 x4) ∧ wr.cell? ⟨g2, i * 5, none⟩ = some (.slice (some ⟨gb, 0, none⟩) n cb) ∧ wr.cell? ⟨g2, i * 5 + 1, none⟩ = some (.int .i64 x1) ∧ wr.cell? ⟨g2, i * 5 + 2, none⟩ = some (.int .i64 x2) ∧ wr.cell? ⟨g2, i * 5 + 3, none⟩ = some (.int .i64 x3) ∧ wr.cell? ⟨g2, i * 5 + 4, none⟩ = some (.int .i64 x4) ∧ Below wr.heap.size wr wr ∧ wr.heap.size ≤ wr.heap.size := ⟨a0, a1, a2, a3, a4, b0, b1, b2, b3, b4, Below.refl _ _, Below.size (show Below wr.heap.size wr wr from Below.refl _ _)⟩
        have hS0 : wr.drew.cell? ⟨g1, i * 5, none⟩ = some (.slice (some ⟨ga, 0, none⟩) n ca) ∧ wr.drew.cell? ⟨g1, i * 5 + 1, none⟩ = some (.int .i64 x1) ∧ wr.drew.cell? ⟨g1, i * 5 + 2, none⟩ = some (.int .i64 x2) ∧ wr.drew.cell? ⟨g1, i * 5 + 3, none⟩ = some (.int .i64 x3) ∧ wr.drew.cell? ⟨g1, i * 5 + 4, none⟩ = some (.int .i64 x4) ∧ wr.drew.cell? ⟨g2, i * 5, none⟩ = some (.slice (some ⟨gb, 0, none⟩) n cb) ∧ wr.drew.cell? ⟨g2, i * 5 + 1, none⟩ = some (.int .i64 x1) ∧ wr.drew.cell? ⟨g2, i * 5 + 2, none⟩ = some (.int .i64 x2) ∧ wr.drew.cell? ⟨g2, i * 5 + 3, none⟩ = some (.int .i64 x3) ∧ wr.drew.cell? ⟨g2, i * 5 + 4, none⟩ = some (.int .i64 x4) ∧ Below wr.heap.size wr wr.drew ∧ wr.heap.size ≤ wr.drew.heap.size := S10_0_next (Below.refl _ wr).drew hS1
        clear a0 a1 a2 a3 a4 b0 b1 b2 b3 b4 hS1
        have M1 : True := trivial
        go_region_held3 (fun w1 => w1.cell? ⟨g1, i * 5, none⟩ = some (.slice (some ⟨ga, 0, none⟩) n ca) ∧ w1.cell? ⟨g1, i * 5 + 1, none⟩ = some (.int .i64 x1) ∧ w1.cell? ⟨g1, i * 5 + 2, none⟩ = some (.int .i64 x2) ∧ w1.cell? ⟨g1, i * 5 + 3, none⟩ = some (.int .i64 x3) ∧ w1.cell? ⟨g1, i * 5 + 4, none⟩ = some (.int .i64 x4) ∧ w1.cell? ⟨g2, i * 5, none⟩ = some (.slice (some ⟨gb, 0, none⟩) n cb) ∧ w1.cell? ⟨g2, i * 5 + 1, none⟩ = some (.int .i64 x1) ∧ w1.cell? ⟨g2, i * 5 + 2, none⟩ = some (.int .i64 x2) ∧ w1.cell? ⟨g2, i * 5 + 3, none⟩ = some (.int .i64 x3) ∧ w1.cell? ⟨g2, i * 5 + 4, none⟩ = some (.int .i64 x4) ∧ Below wr.heap.size wr w1 ∧ wr.heap.size ≤ w1.heap.size)
          (first | with_reducible exact hS0 | with_reducible assumption | (refine S10_0_next (by with_reducible assumption) ?_; assumption))
          (first
            | (go_at_call 23; refine (HC.out _ (S10_0_below (by with_reducible assumption))).mono ?_; rintro e w2 ⟨rfl, hb2⟩; have HB2 := Lib.hid (Below.trans HB.out (Below.mono (Below.trans (S10_0_below (by with_reducible assumption)) (Below.mono hb2 (Below.size (S10_0_below (by with_reducible assumption))))) HB.out.size))))
        all_goals go_wp2
        all_goals go_roundw
        all_goals first
          | exact ⟨i + 1, by omega, by go_num, HB2.out⟩
          | (simp [intOf]; omega)
      · obtain rfl : k = i := by omega
        have HB := Lib.hid hb
        clear hb
        go_wp2
        go_ret
        exact ⟨rfl, HB.out⟩
def farB (n : Int) : Bool := decide (12 < n) && decide (n ≤ 128)
theorem c_Far (n : Int) (w : World) : Calls Tryz.prog 12 #[.int .i64 n] w fun e w' => e = .returned (.bool (farB n)) ∧ w' = w := by
  go_enter Tryz.func12, Tryz.ntmps12
  go_wp2
  all_goals (go_ret; exact ⟨ret_b (by rw [Bool.eq_iff_iff]; simp [farB]; omega), rfl⟩)
end Go.Proofs.YthikonjlgljikaaGreatDoor
namespace Go.Proofs.YthikonjlgljikaaGreatDoor
open Go.RowKit

/-- Raw, of whatever length. -/
def IsA (x y : Int) : FP := fun w s p n c t q m d => Zr w s p n c x ∧ Zr w t q m d y
theorem IsA.solid (x y : Int) : Solid (IsA x y) := fun _ _ _ _ _ _ _ _ _ _ h hq => ⟨hq.1.i32 h, hq.2.i32 h⟩
/-- The first i elements are short. -/
def Shorts (x y : Nat → Int) (w : World) (vp : Option Addr) (i : Nat) : Prop := ∀ j, j < i → ∃ g o, vp = some ⟨g, o, none⟩ ∧ g < w.heap.size ∧ QE (IsR (x j) (y j)) w g (o + j * 4)
theorem Shorts.ql {x y : Nat → Int} {w : World} {vp : Option Addr} {n c : Nat} (h : Shorts x y w vp n) : QL (fun j => IsR (x j) (y j)) w (.slice vp n c) n := by
  rcases Nat.eq_zero_or_pos n with rfl | h0
  · exact .inl ⟨rfl, _, _, rfl⟩
  · obtain ⟨g, o, rfl, hg, _⟩ := h 0 h0
    refine .inr ⟨g, o, c, rfl, hg, fun j hj => ?_⟩
    obtain ⟨g', o', e, _, hq⟩ := h j hj
    injection e with e
    injection e with e1 e2
    subst e1; subst e2
    exact hq
theorem OwnQ.ql_put {F : Nat → FP} (hF : ∀ j, Solid (F j)) {w : World} {B n : Nat} {v : Value} (h : OwnQ F w B v n) {R : Nat} (hR : Stk NotU32 w R) (hlt : R < B) : ∃ p c, v = .slice p n c ∧ ∀ u, QL F (w.setCell ⟨R, 0, none⟩ u) v n := by
  rcases h.row with ⟨rfl, rfl⟩ | ⟨g, cap, rfl, hg, hr⟩
  · exact ⟨none, 0, rfl, fun _ => .inl ⟨rfl, _, _, rfl⟩⟩
  · exact ⟨_, cap, rfl, fun u => (QRow.i32 hF hr (I32.putK hR 0 u) (but_put w R 0 u) (by omega)).ql cap⟩
set_option maxHeartbeats 8000000 in
set_option maxRecDepth 100000 in
theorem c_lawIm (N k D n p q p' q' : Int) (v : Value) (len : Nat) (x y : Nat → Int) (w : World) (hT : Tab w) (h : QL (fun j => IsA (x j) (y j)) w v len)
    (hp : -9223372036854775808 ≤ p) (hp' : p ≤ 9223372036854775807) (hbq : -9223372036854775808 ≤ q) (hbq' : q ≤ 9223372036854775807) (hr : -9223372036854775808 ≤ p') (hr' : p' ≤ 9223372036854775807) (hs : -9223372036854775808 ≤ q') (hs' : q' ≤ 9223372036854775807) :
    Calls Tryz.prog 3 #[spec N k D, .int .i64 n, .agg #[v, .int .i64 p, .int .i64 q, .int .i64 p', .int .i64 q']] w fun e w' => e = .returned (.bool true) ∧ Below w.heap.size w w' := by
  obtain ⟨vp, vc, rfl⟩ : ∃ p c, v = .slice p len c := by
    rcases h with ⟨rfl, a, c, rfl⟩ | ⟨g, o, c, rfl, _⟩
    · exact ⟨_, _, rfl⟩
    · exact ⟨_, _, rfl⟩
  have HA := Lib.hid (fun j (hj : j < len) => (show ∃ g o, vp = some ⟨g, o, none⟩ ∧ g < w.heap.size ∧ QE (IsA (x j) (y j)) w g (o + j * 4) by
    rcases h with ⟨h1, _⟩ | ⟨g, o, c, e, hg, h1⟩
    · omega
    · injection e with e1 e2 e3
      exact ⟨g, o, e1, hg, h1 j hj⟩))
  have hI := fun (hlen : len ≤ 30) => And.intro (fun v1 w1 (hT1 : Tab w1) h1 => c_Images N k D n p q p' q' v1 len x y w1 hT1 h1 hlen hp hp' hbq hbq' hr hr' hs hs') (fun v1 w1 h1 => c_Images46 N k D n p q p' q' v1 len x y w1 h1 hlen hp hp' hbq hbq' hr hr' hs hs')
  have HLO := Lib.hid (cosL_ok N k D n)
  have HLN := Lib.hid (cos_len N k D n (Pl.kroP D))
  obtain ⟨er, her⟩ : ∃ er, imEr N k D n len p q p' q' (Pl.cosL (Pl.kroP D) N k D n) = er := ⟨_, rfl⟩
  obtain ⟨L, hL⟩ : ∃ L, Pl.cosL (Pl.kroP D) N k D n = L := ⟨_, rfl⟩
  rw [hL] at her
  simp only [hL, her] at hI HLO HLN
  have HFS := Lib.hid (fun (hlen : len ≤ 30) (hQ : ∀ i, i < len → hq (Rat.divInt (x i) (y i)) ≤ 4) i (hi : i < L.length) j => (show hq (imF (fun i => Rat.divInt (x i) (y i)) len (L.getD i ((0, 0, 0), 0)) j) ≤ 5000 from hq_imF hQ hlen (by
    rw [show L.getD i ((0, 0, 0), 0) = L[i] by simp [hi]]
    exact HLO.out _ (List.getElem_mem hi)) j))
  obtain ⟨F, hF⟩ : ∃ F, (fun i => imF (fun i => Rat.divInt (x i) (y i)) len (L.getD i ((0, 0, 0), 0))) = F := ⟨_, rfl⟩
  obtain ⟨X, hX⟩ : ∃ X, (fun i => imX p q (L.getD i ((0, 0, 0), 0))) = X := ⟨_, rfl⟩
  obtain ⟨Y, hY⟩ : ∃ Y, (fun i => imX p' q' (L.getD i ((0, 0, 0), 0))) = Y := ⟨_, rfl⟩
  have eF : ∀ i, imF (fun i => Rat.divInt (x i) (y i)) len (L.getD i ((0, 0, 0), 0)) = F i := fun i => congrFun hF i
  simp only [hF, hX, hY] at hI
  simp only [eF] at HFS
  have HI := Lib.hid hI
  have HT := Lib.hid hT
  clear hI hT h hp hp' hbq hbq' hr hr' hs hs' hF hX hY eF hL her HLO
  go_enter Tryz.func3, Tryz.ntmps3
  go_wp2_with fail
  obtain ⟨w0, hw0⟩ : ∃ w0, ((w.alloc (.cells #[.int .i64 N, .int .i64 k, .int .i64 D] 23)).alloc (.cells #[.slice vp len vc, .int .i64 p, .int .i64 q, .int .i64 p', .int .i64 q'] 28)) = w0 := ⟨_, rfl⟩
  rw [hw0]
  obtain ⟨X0, X1, hb0⟩ := box2 w #[.int .i64 N, .int .i64 k, .int .i64 D] 23 #[.slice vp len vc, .int .i64 p, .int .i64 q, .int .i64 p', .int .i64 q'] 28
  rw [hw0] at X0 X1 hb0
  have hs0 : w.heap.size ≤ w0.heap.size := hb0.size
  clear hw0
  refine (c_awake46 _ (HT.out.below hb0)).mono ?_
  rintro en w1 ⟨rfl, hb1⟩
  have HX0 := Lib.hid (X0.below_ hb1 X0.lt)
  have HX1 := Lib.hid (X1.below_ hb1 X1.lt)
  have HB1 := Lib.hid (hb0.trans (hb1.mono hs0))
  clear hb0 hb1 X0 X1 hs0
  go_wp2_with fail
  refine (c_Far n _).mono ?_
  rintro en w2 ⟨rfl, rfl⟩
  have y0 : w2.cell? ⟨w.heap.size + 1, 0, none⟩ = some (.slice vp len vc) := HX1.out.at_ 0 rfl
  cases hfar : farB n with
  | true =>
    clear HI HA HFS
    go_wp2
    go_ret
    exact ⟨rfl, HB1.out⟩
  | false =>
    by_cases hlen : 30 < len
    · have hli : (len : Int) > 30 := by omega
      clear HI HA HFS
      go_wp2
      go_ret
      exact ⟨rfl, HB1.out⟩
    · have hl30 : len ≤ 30 := by omega
      clear hlen
      go_wp2
      go_loopw [7] (fun ii wr => ∃ i : Nat, i ≤ len ∧ ii = .int .i64 i ∧ wr = w2 ∧ Shorts x y w2 vp i) (fun ii _ => len - (intOf ii).toNat)
      case atStart => exact ⟨0, Nat.zero_le _, rfl, rfl, fun j hj => absurd hj (Nat.not_lt_zero _)⟩
      case round =>
        obtain ⟨i, hi, rfl, rfl, hsh⟩ := hrel
        have HSH := Lib.hid hsh
        clear hsh
        by_cases hlt : i < len
        · obtain ⟨g, o, rfl, hg, he⟩ := HA.out i hlt
          obtain ⟨s', p1, n1, c1, t1, q1, m1, d1, a0, a1, a2, a3, hx⟩ := he.keep (IsA.solid _ _) HB1.out
          have HXE := Lib.hid hx
          have hii : (i : Int) < (len : Int) := by omega
          clear hx he
          by_cases hn1 : 4 < n1
          · have hn1i : (n1 : Int) > 4 := by omega
            have hn1d : decide ((n1 : Int) > 4) = true := decide_eq_true hn1i
            clear HI HA HFS
            go_wp2
            go_ret
            exact ⟨rfl, HB1.out⟩
          · have hn1i : ¬ (n1 : Int) > 4 := by omega
            by_cases hm1 : 4 < m1
            · have hm1i : (m1 : Int) > 4 := by omega
              clear HI HA HFS
              go_wp2
              go_ret
              exact ⟨rfl, HB1.out⟩
            · have hm1i : ¬ (m1 : Int) > 4 := by omega
              have HS2 := Lib.hid (show Shorts x y wr (some ⟨g, o, none⟩) (i + 1) from fun j hj => by
                by_cases h : j < i
                · exact HSH.out j h
                · obtain rfl : j = i := by omega
                  exact ⟨g, o, rfl, Nat.lt_of_lt_of_le hg HB1.out.size, s', p1, n1, c1, t1, q1, m1, d1, a0, a1, a2, a3, HXE.out.1, HXE.out.2, by omega, by omega⟩)
              go_wp2
              go_roundw
              case rel => exact ⟨i + 1, by omega, by go_num, by first | rfl | trivial, HS2.out⟩
              case measure => simp [intOf]; omega
        · obtain rfl : len = i := by omega
          have HQR := Lib.hid (HSH.out.ql (c := vc))
          have HQS := Lib.hid (fun i (hi : i < len) => show hq (Rat.divInt (x i) (y i)) ≤ 4 by
            obtain ⟨_, _, _, _, _, _, _, _, _, _, _, _, _, _, _, _, h5, h6, h7, h8⟩ := HSH.out i hi
            exact hq_frac (Nat.le_trans h5.size h7) (Nat.le_trans h6.size h8))
          obtain ⟨hI1, hI2⟩ := HI.out hl30
          have HI1 := Lib.hid hI1
          have HI2 := Lib.hid hI2
          have HSZ := Lib.hid (HFS.out hl30 HQS.out)
          have y1 : wr.cell? ⟨w.heap.size + 1, 1, none⟩ = some (.int .i64 p) := HX1.out.at_ 1 rfl
          have y2 : wr.cell? ⟨w.heap.size + 1, 2, none⟩ = some (.int .i64 q) := HX1.out.at_ 2 rfl
          have y3 : wr.cell? ⟨w.heap.size + 1, 3, none⟩ = some (.int .i64 p') := HX1.out.at_ 3 rfl
          have y4 : wr.cell? ⟨w.heap.size + 1, 4, none⟩ = some (.int .i64 q') := HX1.out.at_ 4 rfl
          have u0 : ∀ o, (wr.alloc o).cell? ⟨w.heap.size + 1, 0, none⟩ = some (.slice vp len vc) := fun o => (HX1.out.alloc_ o).at_ 0 rfl
          clear hI1 hI2 HI HFS HSH HA hlt
          go_wp2_with fail
          refine (c_CopyRats (.slice vp len vc) len x y _ (HQR.out.keep (fun j => IsR.solid _ _) ((Below.refl _ _).alloc (Nat.le_refl _) _)) (by omega)).mono ?_
          rintro e w3 ⟨⟨v', rfl, ho⟩, hb3⟩
          have hal : ∀ o, Below wr.heap.size wr (wr.alloc o) := fun o => (Below.refl _ _).alloc (Nat.le_refl _) o
          have HW3 := Lib.hid ((hal (.cells #[.slice vp len vc, .int .i64 p, .int .i64 q, .int .i64 p', .int .i64 q'] 28)).trans (hb3.mono (by simp)))
          have HX8 := Lib.hid ((Blk.new wr 28 #[.slice vp len vc, .int .i64 p, .int .i64 q, .int .i64 p', .int .i64 q']).below_ hb3 (by simp))
          have HS8 := Lib.hid (Stk.of (K := NotU32) HX8.out (by intro v hv; simp at hv; rcases hv with rfl | rfl | rfl | rfl | rfl <;> exact fun _ h => by cases h))
          obtain ⟨p9, c9, rfl, hq9⟩ := ho.ql_put (fun _ => IsR.solid _ _) HS8.out (by simp)
          have HQ9 := Lib.hid hq9
          have hbw : w.heap.size ≤ wr.heap.size := HB1.out.size
          have hx1l : w.heap.size + 1 < wr.heap.size := HX1.out.lt
          have HSC := Lib.hid (fun (u : Value) => (HW3.out.setCell (p := ⟨wr.heap.size, 0, none⟩) (Nat.le_refl _) u))
          have HY0 := Lib.hid (fun u => (HX0.out.below_ HW3.out HX0.out.lt).far_ (p := ⟨wr.heap.size, 0, none⟩) (by dsimp only; omega) u)
          have HY1 := Lib.hid (fun u => (HX1.out.below_ HW3.out HX1.out.lt).far_ (p := ⟨wr.heap.size, 0, none⟩) (by dsimp only; omega) u)
          have b0 : w3.cell? ⟨wr.heap.size, 0, none⟩ = some (.slice vp len vc) := HX8.out.at_ 0 rfl
          have b1 : w3.cell? ⟨wr.heap.size, 1, none⟩ = some (.int .i64 p) := HX8.out.at_ 1 rfl
          have b2 : w3.cell? ⟨wr.heap.size, 2, none⟩ = some (.int .i64 q) := HX8.out.at_ 2 rfl
          have b3 : w3.cell? ⟨wr.heap.size, 3, none⟩ = some (.int .i64 p') := HX8.out.at_ 3 rfl
          have b4 : w3.cell? ⟨wr.heap.size, 4, none⟩ = some (.int .i64 q') := HX8.out.at_ 4 rfl
          have f0 : w3.frozen? ⟨wr.heap.size, 0, none⟩ = false := HX8.out.free_ 0
          have s0 : ∀ u, (w3.setCell ⟨wr.heap.size, 0, none⟩ u).cell? ⟨w.heap.size, 0, none⟩ = some (.int .i64 N) := fun u => (HY0.out u).at_ 0 rfl
          have s1 : ∀ u, (w3.setCell ⟨wr.heap.size, 0, none⟩ u).cell? ⟨w.heap.size, 1, none⟩ = some (.int .i64 k) := fun u => (HY0.out u).at_ 1 rfl
          have s2 : ∀ u, (w3.setCell ⟨wr.heap.size, 0, none⟩ u).cell? ⟨w.heap.size, 2, none⟩ = some (.int .i64 D) := fun u => (HY0.out u).at_ 2 rfl
          clear ho hb3 hal y0 y1 y2 y3 y4 u0 hq9
          go_wp2_with fail
          have HB4 := Lib.hid (HB1.out.trans ((HSC.out (.slice p9 len c9)).mono hbw))
          refine (HI1.out (.slice p9 len c9) _ (HT.out.below HB4.out) (HQ9.out _)).mono ?_
          rintro e w5 ⟨⟨B5, _, hret⟩, hb5⟩
          clear b0 b1 b2 b3 b4 f0 s0 s1 s2 HQ9 HS8 HX8
          rcases hret with ⟨hne, rfl⟩ | ⟨h0, v5, rfl, ho5⟩
          · skip
            have HB5 := Lib.hid (HB4.out.trans (hb5.mono HB4.out.size))
            have HWR5 := Lib.hid ((HSC.out (.slice p9 len c9)).trans (hb5.mono (HSC.out (.slice p9 len c9)).size))
            have HZ0 := Lib.hid ((HY0.out (.slice p9 len c9)).below_ hb5 (HY0.out _).lt)
            have HZ1 := Lib.hid ((HY1.out (.slice p9 len c9)).below_ hb5 (HY1.out _).lt)
            have s0 : w5.cell? ⟨w.heap.size, 0, none⟩ = some (.int .i64 N) := HZ0.out.at_ 0 rfl
            have s1 : w5.cell? ⟨w.heap.size, 1, none⟩ = some (.int .i64 k) := HZ0.out.at_ 1 rfl
            have s2 : w5.cell? ⟨w.heap.size, 2, none⟩ = some (.int .i64 D) := HZ0.out.at_ 2 rfl
            have t0 : w5.cell? ⟨w.heap.size + 1, 0, none⟩ = some (.slice vp len vc) := HZ1.out.at_ 0 rfl
            have t1 : w5.cell? ⟨w.heap.size + 1, 1, none⟩ = some (.int .i64 p) := HZ1.out.at_ 1 rfl
            have t2 : w5.cell? ⟨w.heap.size + 1, 2, none⟩ = some (.int .i64 q) := HZ1.out.at_ 2 rfl
            have t3 : w5.cell? ⟨w.heap.size + 1, 3, none⟩ = some (.int .i64 p') := HZ1.out.at_ 3 rfl
            have t4 : w5.cell? ⟨w.heap.size + 1, 4, none⟩ = some (.int .i64 q') := HZ1.out.at_ 4 rfl
            have HQ5 := Lib.hid (HQR.out.keep (fun j => IsR.solid _ _) HWR5.out)
            clear hb5 HI1 HB4
            go_wp2_with fail
            refine (HI2.out (.slice vp len vc) w5 HQ5.out).mono ?_
            rintro e w6 ⟨⟨B6, _, hret2⟩, hb6⟩
            have HB6 := Lib.hid (HB5.out.trans (hb6.mono HB5.out.size))
            obtain rfl : e = .returned (.tuple #[.slice none 0 0, .int .i64 er]) := by
              rcases hret2 with ⟨_, h⟩ | ⟨h, _⟩
              · exact h
              · exact absurd h hne
            have HP1 := Lib.hid (show PLs F X Y w6 (.slice none 0 0) 0 len from .inl ⟨rfl, _, _, rfl⟩)
            have HP2 := HP1
            clear hret2 hb6 s0 s1 s2 t0 t1 t2 t3 t4
            go_wp2_with fail
            refine (c_SameP_eq _ _ 0 len F X Y w6 HP1.out HP2.out (by omega) (by omega) (fun i hi => absurd hi (Nat.not_lt_zero _))).mono ?_
            rintro e w7 ⟨rfl, hb7⟩
            have HB7 := Lib.hid (HB6.out.trans (hb7.mono HB6.out.size))
            clear hb7
            go_wp2
            go_ret
            exact ⟨rfl, HB7.out⟩
          · have HO5 := Lib.hid ho5.pls
            clear ho5
            have HB5 := Lib.hid (HB4.out.trans (hb5.mono HB4.out.size))
            have HWR5 := Lib.hid ((HSC.out (.slice p9 len c9)).trans (hb5.mono (HSC.out (.slice p9 len c9)).size))
            have HZ0 := Lib.hid ((HY0.out (.slice p9 len c9)).below_ hb5 (HY0.out _).lt)
            have HZ1 := Lib.hid ((HY1.out (.slice p9 len c9)).below_ hb5 (HY1.out _).lt)
            have s0 : w5.cell? ⟨w.heap.size, 0, none⟩ = some (.int .i64 N) := HZ0.out.at_ 0 rfl
            have s1 : w5.cell? ⟨w.heap.size, 1, none⟩ = some (.int .i64 k) := HZ0.out.at_ 1 rfl
            have s2 : w5.cell? ⟨w.heap.size, 2, none⟩ = some (.int .i64 D) := HZ0.out.at_ 2 rfl
            have t0 : w5.cell? ⟨w.heap.size + 1, 0, none⟩ = some (.slice vp len vc) := HZ1.out.at_ 0 rfl
            have t1 : w5.cell? ⟨w.heap.size + 1, 1, none⟩ = some (.int .i64 p) := HZ1.out.at_ 1 rfl
            have t2 : w5.cell? ⟨w.heap.size + 1, 2, none⟩ = some (.int .i64 q) := HZ1.out.at_ 2 rfl
            have t3 : w5.cell? ⟨w.heap.size + 1, 3, none⟩ = some (.int .i64 p') := HZ1.out.at_ 3 rfl
            have t4 : w5.cell? ⟨w.heap.size + 1, 4, none⟩ = some (.int .i64 q') := HZ1.out.at_ 4 rfl
            have HQ5 := Lib.hid (HQR.out.keep (fun j => IsR.solid _ _) HWR5.out)
            clear hb5 HI1 HB4
            go_wp2_with fail
            refine (HI2.out (.slice vp len vc) w5 HQ5.out).mono ?_
            rintro e w6 ⟨⟨B6, _, hret2⟩, hb6⟩
            have HB6 := Lib.hid (HB5.out.trans (hb6.mono HB5.out.size))
            obtain ⟨v6, rfl, ho6⟩ : ∃ v, e = .returned (.tuple #[v, .int .i64 0]) ∧ OwnP F X Y w6 B6 v L.length len := by
              rcases hret2 with ⟨h, _⟩ | ⟨_, h⟩
              · exact absurd h0 h
              · exact h
            have HP1 := Lib.hid (HO5.out.keep hb6)
            have HP2 := Lib.hid ho6.pls
            clear hret2 hb6 ho6 HO5 s0 s1 s2 t0 t1 t2 t3 t4
            go_wp2_with fail
            refine (c_SameP_eq _ _ L.length len F X Y w6 HP1.out HP2.out (by have := HLN.out; omega) (by omega) (fun i hi j _ => by have := HSZ.out i hi j; omega)).mono ?_
            rintro e w7 ⟨rfl, hb7⟩
            have HB7 := Lib.hid (HB6.out.trans (hb7.mono HB6.out.size))
            clear hb7
            go_wp2
            go_ret
            exact ⟨rfl, HB7.out⟩
end Go.Proofs.YthikonjlgljikaaGreatDoor
