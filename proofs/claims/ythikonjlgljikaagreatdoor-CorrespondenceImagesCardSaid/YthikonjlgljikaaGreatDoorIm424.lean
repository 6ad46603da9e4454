/- Contracts of halfplaneref02: Of, Over. -/
import Derived.Test.YthikonjlgljikaaGreatDoorIm423
namespace Go.Proofs.YthikonjlgljikaaGreatDoor
open Go.RowKit

theorem S2_0_next {B : Nat} {w0 w w' : World} {a0 a1 : Addr} {v0 v1 : Value} (hb : Below w.heap.size w w') (h : w.cell? a0 = some v0 ∧ w.cell? a1 = some v1 ∧ Below B w0 w ∧ B ≤ w.heap.size) : w'.cell? a0 = some v0 ∧ w'.cell? a1 = some v1 ∧ Below B w0 w' ∧ B ≤ w'.heap.size := SS.next (B := B) (w0 := w0) (l := [(a0, v0), (a1, v1)]) (m := []) hb h
theorem S2_0_below {B : Nat} {w0 w : World} {a0 a1 : Addr} {v0 v1 : Value} (h : w.cell? a0 = some v0 ∧ w.cell? a1 = some v1 ∧ Below B w0 w ∧ B ≤ w.heap.size) : Below B w0 w := SS.below (B := B) (w0 := w0) (l := [(a0, v0), (a1, v1)]) (m := []) h
theorem sign_lt (y : Int) : Int.sign y < 0 ↔ y < 0 := by
  rcases Int.lt_trichotomy y 0 with h | h | h
  · rw [Int.sign_eq_neg_one_of_neg h]; omega
  · subst h; simp
  · rw [Int.sign_eq_one_of_pos h]; omega
/-- The greatest common divisor with the denominator's sign. -/
def sgcd (x y : Int) : Int := if y < 0 then -(Int.gcd x y : Nat) else (Int.gcd x y : Nat)
theorem sgcd_ne {x y : Int} (hy : y ≠ 0) : sgcd x y ≠ 0 := by
  have : Int.gcd x y ≠ 0 := fun h => hy (Int.gcd_eq_zero_iff.1 h).2
  unfold sgcd; split <;> omega
theorem sgcd_size {x y : Int} {K : Nat} (hy : y ≠ 0) (h : nd y.natAbs ≤ K) : nd (sgcd x y).natAbs ≤ K := by
  have h1 : (sgcd x y).natAbs = Int.gcd x y := by unfold sgcd; split <;> omega
  rw [h1]
  exact Nat.le_trans (nd_mono (Nat.le_of_dvd (by omega) (Nat.gcd_dvd_right x.natAbs y.natAbs))) h
theorem sgcd_div {x y : Int} (hy : y ≠ 0) : (Rat.divInt x y).num = x / sgcd x y ∧ ((Rat.divInt x y).den : Int) = y / sgcd x y := by
  have hx : ((Int.gcd x y : Nat) : Int) ∣ x := Int.gcd_dvd_left ..
  have hyd : ((Int.gcd x y : Nat) : Int) ∣ y := Int.gcd_dvd_right ..
  unfold sgcd
  split
  · have h := over_neg x y
    have hp : 0 < -y := by omega
    have e : Int.gcd (-x) (-y) = Int.gcd x y := by rw [Int.neg_gcd, Int.gcd_neg]
    have h1 := over_num (n := -x) hp
    have h2 := over_den (n := -x) hp
    rw [h, e] at h1 h2
    rw [h1, h2, Int.ediv_neg, Int.ediv_neg, Int.neg_ediv_of_dvd hx, Int.neg_ediv_of_dvd hyd]
    exact ⟨rfl, rfl⟩
  · have hp : 0 < y := by omega
    exact ⟨over_num hp, over_den hp⟩
theorem sgcd_one {x y : Int} (hy : y ≠ 0) (h : sgcd x y = 1) : (Rat.divInt x y).num = x ∧ ((Rat.divInt x y).den : Int) = y := by
  have h1 := sgcd_div (x := x) hy
  rw [h, Int.ediv_one, Int.ediv_one] at h1
  exact h1
set_option maxHeartbeats 2000000 in
set_option maxRecDepth 100000 in
theorem c_sOf (z : Int) (w : World) (h1 : -4611686018427387904 ≤ z) (h2 : z ≤ 4611686018427387904) :
    Calls Tryz.prog 159 #[.int .i64 z] w fun e w' => RetQ w' e (z : Rat) ∧ Below w.heap.size w w' := by
  have HC := Lib.hid (fun w1 => c_rOf z w1 h1 h2)
  have HO := Lib.hid (fun w1 => c_rOf 1 w1 (by omega) (by omega))
  clear h1 h2
  go_enter Tryz.func159, Tryz.ntmps159
  go_wp2_with fail
  obtain ⟨w0, hw0⟩ : ∃ w0, w.alloc (.cells #[.bool false, .slice none 0 0, .bool false, .slice none 0 0] 35) = w0 := ⟨_, rfl⟩
  rw [hw0]
  obtain ⟨X0, hb0⟩ := box1 w #[.bool false, .slice none 0 0, .bool false, .slice none 0 0] 35
  rw [hw0] at X0 hb0
  have HX0 := Lib.hid X0
  have HB0 := Lib.hid hb0
  clear X0 hb0 hw0
  refine (HC.out _).mono ?_
  rintro e w1 ⟨⟨s2, p2, n2, e2, rfl, hz2⟩, hb1⟩
  have HZ2 := Lib.hid hz2
  have HB1 := Lib.hid (HB0.out.trans (hb1.mono HB0.out.size))
  replace HX0 := Lib.hid (HX0.out.below_ hb1 HX0.out.lt)
  clear hz2 hb1 HC
  go_wp2_with fail
  refine (HO.out _).mono ?_
  rintro e w2 ⟨⟨t2, q2, m2, d2, rfl, hz3⟩, hb2⟩
  have HQ := Lib.hid (show Qs w2 s2 p2 n2 e2 t2 q2 m2 d2 (z : Rat) from ⟨HZ2.out.keep hb2, hz3⟩)
  have HR := Lib.hid (HX0.out.below_ hb2 HX0.out.lt)
  have HB := Lib.hid (HB1.out.trans (hb2.mono HB1.out.size))
  clear hz3 hb2 HX0 HB1 HZ2 HO HB0
  have r0 := HR.out.at_ 0 rfl
  have r1 := HR.out.at_ 1 rfl
  have r2 := HR.out.at_ 2 rfl
  have r3 := HR.out.at_ 3 rfl
  have f0 := HR.out.free_ 0
  have f1 := HR.out.free_ 1
  have f2 := HR.out.free_ 2
  have f3 := HR.out.free_ 3
  obtain ⟨w9, hw9⟩ : ∃ w9, (((w2.setCell ⟨w.heap.size, 0, none⟩ (.bool s2)).setCell ⟨w.heap.size, 1, none⟩ (.slice p2 n2 e2)).setCell ⟨w.heap.size, 2, none⟩ (.bool t2)).setCell ⟨w.heap.size, 3, none⟩ (.slice q2 m2 d2) = w9 := ⟨_, rfl⟩
  obtain ⟨E0, E1, E2, E3, hq9⟩ := rat_put HR.out HQ.out hw9
  have hb9 : Below w.heap.size w w9 := by rw [← hw9]; exact below_putR HB.out (by omega) _ _ _ _
  have HW9 := Lib.hid hw9
  have HE9 := Lib.hid (And.intro E0 (And.intro E1 (And.intro E2 E3)))
  have HQ9 := Lib.hid hq9
  have HB9 := Lib.hid hb9
  clear E0 E1 E2 E3 hq9 hb9 hw9 HQ HB HR
  go_wp2
  try rw [HW9.out]
  obtain ⟨E0, E1, E2, E3⟩ := HE9.out
  try simp only [Exit.inBlock, Exit.then]
  refine bodyPost_ret (by simp [results, Tryz.results159, go_sem, E0, E1, E2, E3]; try rfl) rfl ?_
  exact ⟨⟨s2, p2, n2, e2, t2, q2, m2, d2, rfl, HQ9.out⟩, HB9.out⟩
set_option maxHeartbeats 2000000 in
set_option maxRecDepth 100000 in
theorem c_sOver (s : Bool) (p : Option Addr) (n c : Nat) (x : Int) (t : Bool) (q : Option Addr) (m d : Nat) (y : Int) (w : World) (h : Zr w s p n c x) (h' : Zr w t q m d y) (hn : n ≤ 4398046511000) (hm : m ≤ 4398046511000) :
    Calls Tryz.prog 97 #[.agg #[.bool s, .slice p n c], .agg #[.bool t, .slice q m d]] w fun e w' => RetQ w' e (Rat.divInt x y) ∧ Below w.heap.size w w' := by
  obtain ⟨g, hg⟩ : ∃ g, Int.sign y = g := ⟨_, rfl⟩
  have hSg := fun w1 (hb : Below w.heap.size w w1) => c_rSign t q m d y w1 (h'.keep hb) (by omega)
  rw [hg] at hSg
  have HS := Lib.hid hSg
  have HNX := Lib.hid (Nat.le_trans h.size hn)
  have HNY := Lib.hid (Nat.le_trans h'.size hm)
  have HGC := Lib.hid (fun w1 (hb : Below w.heap.size w w1) => c_rGcd s p n c x t q m d y w1 (h.keep hb) (h'.keep hb) hn hm)
  have HN1 := Lib.hid (fun w1 (hb : Below w.heap.size w w1) => c_Norm s p n c x w1 (h.keep hb) (by omega))
  have HN2 := Lib.hid (fun w1 (hb : Below w.heap.size w w1) => c_Norm t q m d y w1 (h'.keep hb) (by omega))
  have HD1 := Lib.hid (fun w1 (hb : Below w.heap.size w w1) s6 p6 n6 c6 G (hz : Zs w1 s6 p6 n6 c6 G) (hG : G ≠ 0) (hl : n6 ≤ 4398046511000) => c_rDivided s p n c x s6 p6 n6 c6 G w1 (h.keep hb) hz.raw hn hl hG)
  have HD2 := Lib.hid (fun w1 (hb : Below w.heap.size w w1) s6 p6 n6 c6 G (hz : Zs w1 s6 p6 n6 c6 G) (hG : G ≠ 0) (hl : n6 ≤ 4398046511000) => c_rDivided t q m d y s6 p6 n6 c6 G w1 (h'.keep hb) hz.raw hm hl hG)
  clear h h' hSg
  go_enter Tryz.func97, Tryz.ntmps97
  go_wp2_with fail
  obtain ⟨w0, hw0⟩ : ∃ w0, (((w.alloc (.cells #[.bool s, .slice p n c] 33)).alloc (.cells #[.bool t, .slice q m d] 33)).alloc (.cells #[.bool false, .slice none 0 0, .bool false, .slice none 0 0] 35)) = w0 := ⟨_, rfl⟩
  rw [hw0]
  obtain ⟨X0, X1, X2, hb0⟩ := box3 w #[.bool s, .slice p n c] 33 #[.bool t, .slice q m d] 33 #[.bool false, .slice none 0 0, .bool false, .slice none 0 0] 35
  rw [hw0] at X0 X1 X2 hb0
  have hs0 : w.heap.size ≤ w0.heap.size := hb0.size
  clear hw0
  have HB0 := Lib.hid hb0
  have HX0 := Lib.hid X0
  have HX1 := Lib.hid X1
  have HX2 := Lib.hid X2
  clear X0 X1 X2 hb0 hs0
  refine (HS.out _ HB0.out).mono ?_
  rintro e w1 ⟨rfl, hb1⟩
  have HB1 := Lib.hid (HB0.out.trans (hb1.mono HB0.out.size))
  have h01 := Lib.hid hb1
  clear hb1
  by_cases hy : y = 0
  · obtain rfl : g = 0 := by rw [← hg, hy]; rfl
    have HG := Lib.hid (show ((0 : Int) : Rat) = Rat.divInt x y by rw [hy, Rat.divInt_zero]; rfl)
    have HO := Lib.hid (c_sOf 0 w1 (by omega) (by omega))
    clear hg hy HS HNX HNY HGC HN1 HN2 HD1 HD2
    go_wp2_with fail
    refine HO.out.mono ?_
    rintro e w2 ⟨⟨s2, p2, n2, e2, t2, q2, m2, d2, rfl, hq2⟩, hb2⟩
    have HQ := Lib.hid hq2
    have HR := Lib.hid ((HX2.out.below_ h01.out HX2.out.lt).below_ hb2 (Nat.lt_of_lt_of_le HX2.out.lt h01.out.size))
    have HB := Lib.hid (HB1.out.trans (hb2.mono HB1.out.size))
    clear hq2 hb2 HX0 HX1 HX2 HB0 HB1 h01 HO
    have r0 := HR.out.at_ 0 rfl
    have r1 := HR.out.at_ 1 rfl
    have r2 := HR.out.at_ 2 rfl
    have r3 := HR.out.at_ 3 rfl
    have f0 := HR.out.free_ 0
    have f1 := HR.out.free_ 1
    have f2 := HR.out.free_ 2
    have f3 := HR.out.free_ 3
    obtain ⟨w9, hw9⟩ : ∃ w9, (((w2.setCell ⟨w.heap.size + 1 + 1, 0, none⟩ (.bool s2)).setCell ⟨w.heap.size + 1 + 1, 1, none⟩ (.slice p2 n2 e2)).setCell ⟨w.heap.size + 1 + 1, 2, none⟩ (.bool t2)).setCell ⟨w.heap.size + 1 + 1, 3, none⟩ (.slice q2 m2 d2) = w9 := ⟨_, rfl⟩
    obtain ⟨E0, E1, E2, E3, hq9⟩ := rat_put HR.out HQ.out hw9
    have hb9 : Below w.heap.size w w9 := by rw [← hw9]; exact below_putR HB.out (by omega) _ _ _ _
    have HW9 := Lib.hid hw9
    have HE9 := Lib.hid (And.intro E0 (And.intro E1 (And.intro E2 E3)))
    have HQ9 := Lib.hid hq9
    have HB9 := Lib.hid hb9
    clear E0 E1 E2 E3 hq9 hb9 hw9 HQ HB HR
    go_wp2
    try rw [HW9.out]
    obtain ⟨E0, E1, E2, E3⟩ := HE9.out
    try simp only [Exit.inBlock, Exit.then]
    refine bodyPost_ret (by simp [results, Tryz.results97, go_sem, E0, E1, E2, E3]; try rfl) rfl ?_
    exact ⟨⟨s2, p2, n2, e2, t2, q2, m2, d2, rfl, HG.out ▸ HQ9.out⟩, HB9.out⟩
  · have hg0 : (g == (0 : Int)) = false := beq_eq_false_iff_ne.2 (by rw [← hg]; exact fun h => hy (Int.sign_eq_zero_iff_zero.1 h))
    have hlt : (g < 0) ↔ (y < 0) := by rw [← hg]; exact sign_lt y
    have HLT := Lib.hid hlt
    have HY := Lib.hid hy
    clear hg hlt hy
    have Y0 := HX0.out.below_ h01.out HX0.out.lt
    have Y1 := HX1.out.below_ h01.out HX1.out.lt
    have a0 : w1.cell? ⟨w.heap.size, 0, none⟩ = some (.bool s) := Y0.at_ 0 rfl
    have a1 : w1.cell? ⟨w.heap.size, 1, none⟩ = some (.slice p n c) := Y0.at_ 1 rfl
    have b0 : w1.cell? ⟨w.heap.size + 1, 0, none⟩ = some (.bool t) := Y1.at_ 0 rfl
    have b1 : w1.cell? ⟨w.heap.size + 1, 1, none⟩ = some (.slice q m d) := Y1.at_ 1 rfl
    clear Y0 Y1
    go_wp2_with fail
    refine (HGC.out _ HB1.out).mono ?_
    rintro e w2 ⟨⟨s6, p6, n6, c6, rfl, hz6⟩, hb2⟩
    go_upto_region 4 with (fail)
    obtain ⟨wd, hwd⟩ : ∃ wd, w2.alloc (.cells #[.bool s6, .slice p6 n6 c6] 33) = wd := ⟨_, rfl⟩
    rw [hwd]
    obtain ⟨X5, hb5⟩ := box1 w2 #[.bool s6, .slice p6 n6 c6] 33
    rw [hwd] at X5 hb5
    obtain ⟨g5, hg5⟩ : ∃ g5, w2.heap.size = g5 := ⟨_, rfl⟩
    rw [hg5] at X5
    try rw [hg5]
    have hb05 := Lib.hid (((h01.out.trans (hb2.mono h01.out.size))).trans (hb5.mono (Nat.le_trans h01.out.size hb2.size)))
    have HBD := Lib.hid (HB0.out.trans (hb05.out.mono HB0.out.size))
    have hRg : w.heap.size + 1 + 1 < g5 := by rw [← hg5]; exact Nat.lt_of_lt_of_le HX2.out.lt (Nat.le_trans h01.out.size hb2.size)
    have hgd : g5 < wd.heap.size := X5.lt
    replace HX0 := Lib.hid (HX0.out.below_ hb05.out HX0.out.lt)
    replace HX1 := Lib.hid (HX1.out.below_ hb05.out HX1.out.lt)
    replace HX2 := Lib.hid (HX2.out.below_ hb05.out HX2.out.lt)
    have HX5 := Lib.hid X5
    have HZ6 := Lib.hid (hz6.keep hb5)
    have hgl : nd (Int.gcd x y : Nat) ≤ 4398046511000 := Nat.le_trans (nd_mono (Nat.le_of_dvd (by have := HY.out; omega) (Nat.gcd_dvd_right x.natAbs y.natAbs))) HNY.out
    have hn6 : n6 ≤ 4398046511000 := by rw [← hz6.2.1]; exact hgl
    clear hz6 hb2 hb5 X5 hwd hg5 hb05 h01 HB0 HB1 HGC hgl a0 a1 b0 b1
    have b0 : wd.cell? ⟨w.heap.size + 1, 0, none⟩ = some (.bool t) := HX1.out.at_ 0 rfl
    have b1 : wd.cell? ⟨w.heap.size + 1, 1, none⟩ = some (.slice q m d) := HX1.out.at_ 1 rfl
    go_wp2_with fail
    refine (HS.out _ HBD.out).mono ?_
    rintro e w3 ⟨rfl, hb3⟩
    have hds := hb3.size
    replace HX0 := Lib.hid (HX0.out.below_ hb3 HX0.out.lt)
    replace HX1 := Lib.hid (HX1.out.below_ hb3 HX1.out.lt)
    replace HX2 := Lib.hid (HX2.out.below_ hb3 HX2.out.lt)
    replace HX5 := Lib.hid (HX5.out.below_ hb3 HX5.out.lt)
    replace HZ6 := Lib.hid (HZ6.out.keep hb3)
    replace HBD := Lib.hid (HBD.out.trans (hb3.mono HBD.out.size))
    replace hgd : g5 < w3.heap.size := Nat.lt_of_lt_of_le hgd hds
    clear hb3 hds b0 b1
    go_upto_if 15 with (fail)
    obtain ⟨gb, hgb⟩ : ∃ gb, decide (g < 0) = gb := ⟨_, rfl⟩
    try rw [hgb]
    have HGB := Lib.hid hgb
    clear hgb
    go_cut [] from 16 to 17 (fun we => ∃ s7 p7 n7 c7, Zs we s7 p7 n7 c7 (sgcd x y) ∧ Blk we g5 33 #[.bool s7, .slice p7 n7 c7] ∧ Below g5 w3 we ∧ w3.heap.size ≤ we.heap.size)
    case first =>
      cases gb with
      | true =>
        have hlt : g < 0 := of_decide_eq_true HGB.out
        have HV := Lib.hid (show -((Int.gcd x y : Nat) : Int) = sgcd x y by unfold sgcd; rw [if_pos (HLT.out.1 hlt)])
        have HNE := Lib.hid (c_rNeg s6 p6 n6 c6 _ w3 HZ6.out.raw (by omega))
        have X3 := HX5.out
        have a0 : w3.cell? ⟨g5, 0, none⟩ = some (.bool s6) := X3.at_ 0 rfl
        have a1 : w3.cell? ⟨g5, 1, none⟩ = some (.slice p6 n6 c6) := X3.at_ 1 rfl
        have HX3 := Lib.hid X3
        clear X3 hlt
        go_wp2_with fail
        refine HNE.out.mono ?_
        rintro e w4 ⟨⟨s7, p7, n7, c7, rfl, hz7⟩, hb4⟩
        have X4 := HX3.out.below_ hb4 HX3.out.lt
        have e0 : w4.cell? ⟨g5, 0, none⟩ = some (.bool s6) := X4.at_ 0 rfl
        have e1 : w4.cell? ⟨g5, 1, none⟩ = some (.slice p6 n6 c6) := X4.at_ 1 rfl
        have f0 := X4.free_ 0
        have f1 := X4.free_ 1
        obtain ⟨hX, hZ⟩ := one_put X4 hz7
        have HF := Lib.hid (And.intro hX hZ)
        have HBZ := Lib.hid ((hb4.mono (Nat.le_of_lt hgd)).setCell (p := ⟨g5, 0, none⟩) (Nat.le_refl g5) (.bool s7) |>.setCell (p := ⟨g5, 1, none⟩) (Nat.le_refl g5) (.slice p7 n7 c7))
        have HSZ := Lib.hid (show w3.heap.size ≤ ((w4.setCell ⟨g5, 0, none⟩ (.bool s7)).setCell ⟨g5, 1, none⟩ (.slice p7 n7 c7)).heap.size by
          rw [World.size_setCell, World.size_setCell]; exact hb4.size)
        clear hz7 hb4 X4 hX hZ a0 a1 HNE
        go_wp2
        go_meet
        case rel => exact ⟨s7, p7, n7, c7, HV.out ▸ HF.out.2, HF.out.1, HBZ.out, HSZ.out⟩
      | false =>
        have hlt : ¬ g < 0 := of_decide_eq_false HGB.out
        have HV := Lib.hid (show ((Int.gcd x y : Nat) : Int) = sgcd x y by unfold sgcd; rw [if_neg (fun h => hlt (HLT.out.2 h))])
        clear hlt
        go_wp2
        go_meet
        case rel => exact ⟨s6, p6, n6, c6, HV.out ▸ HZ6.out, HX5.out, Below.refl _ _, Nat.le_refl _⟩
    case rest =>
      obtain ⟨we, rfl⟩ : ∃ we : World, we = wc := ⟨_, rfl⟩
      obtain ⟨s7, p7, n7, c7, hz7, X5, hbe, hse⟩ := hcut
      replace HX0 := Lib.hid (HX0.out.below_ hbe (by omega))
      replace HX1 := Lib.hid (HX1.out.below_ hbe (by omega))
      replace HX2 := Lib.hid (HX2.out.below_ hbe (by omega))
      have HBE := Lib.hid ((HBD.out).trans (hbe.mono (by have := HBD.out.size; omega)) : Below w.heap.size w we)
      have hn7 : n7 ≤ 4398046511000 := by rw [← hz7.2.1]; exact sgcd_size HY.out HNY.out
      have HZ7 := Lib.hid hz7
      have HX7 := Lib.hid X5
      have HO1 := Lib.hid (fun w1 => c_rOf 1 w1 (by omega) (by omega))
      clear HBD HX5 HZ6 hz7 hbe hse HS hgd
      obtain ⟨b, hb⟩ : ∃ b, decide (sgcd x y = 1) = b := ⟨_, rfl⟩
      have HSA := Lib.hid (fun w1 (hw : Below we.heap.size we w1) s8 p8 n8 c8 (hz : Zs w1 s8 p8 n8 c8 1) => c_rSame s7 p7 n7 c7 (sgcd x y) s8 p8 n8 c8 1 w1 (HZ7.out.keep hw) hz (by omega))
      rw [hb] at HSA
      have HBV := Lib.hid hb
      clear hb
      go_upto_region 6 with (fail)
      go_cut [20] from 18 to 19 (fun v20 wf => v20 = .bool b ∧ Below we.heap.size we wf)
      case first =>
        have hS1 : we.cell? ⟨g5, 0, none⟩ = some (.bool s7) ∧ we.cell? ⟨g5, 1, none⟩ = some (.slice p7 n7 c7) ∧ Below we.heap.size we we ∧ we.heap.size ≤ we.heap.size := ⟨X5.at_ 0 rfl, X5.at_ 1 rfl, Below.refl _ _, Below.size (show Below we.heap.size we we from Below.refl _ _)⟩
        have hS0 : we.drew.cell? ⟨g5, 0, none⟩ = some (.bool s7) ∧ we.drew.cell? ⟨g5, 1, none⟩ = some (.slice p7 n7 c7) ∧ Below we.heap.size we we.drew ∧ we.heap.size ≤ we.drew.heap.size := S2_0_next (Below.refl _ we).drew hS1
        clear X5 hS1
        have M1 : True := trivial
        go_region_held3 (fun w1 => w1.cell? ⟨g5, 0, none⟩ = some (.bool s7) ∧ w1.cell? ⟨g5, 1, none⟩ = some (.slice p7 n7 c7) ∧ Below we.heap.size we w1 ∧ we.heap.size ≤ w1.heap.size)
          (first | with_reducible exact hS0 | (refine S2_0_next (by with_reducible assumption) ?_; assumption))
          (first
            | (go_at_call 162; refine (HO1.out _).mono ?_; rintro e w8 ⟨⟨s8, p8, n8, c8, rfl, hz8⟩, hb8⟩; have HB8 := Lib.hid (Below.trans (S2_0_below (by with_reducible assumption)) (Below.mono hb8 (Below.size (S2_0_below (by with_reducible assumption))))); have HS8 := Lib.hid (HSA.out _ HB8.out _ _ _ _ hz8); clear hz8)
            | (go_at_call 161; refine HS8.out.mono ?_; rintro e w9 ⟨rfl, hb9⟩; have HB9 := Lib.hid (HB8.out.trans (hb9.mono HB8.out.size)); clear hb8))
        all_goals go_wp2
        all_goals go_meet
        all_goals exact ⟨rfl, HB9.out⟩
      case rest =>
        obtain ⟨wf, rfl⟩ : ∃ wf : World, wf = wc := ⟨_, rfl⟩
        obtain ⟨rfl, hbf⟩ := hcut
        have X0 := HX0.out.below_ hbf HX0.out.lt
        have X1 := HX1.out.below_ hbf HX1.out.lt
        have X2 := HX2.out.below_ hbf HX2.out.lt
        have X5 := HX7.out.below_ hbf HX7.out.lt
        have HBF := Lib.hid (HBE.out.trans (hbf.mono HBE.out.size))
        have HZ5 := Lib.hid (HZ7.out.keep hbf)
        have HXZ := Lib.hid (sgcd_div (x := x) HY.out)
        clear HX0 HX1 HX2 HX7 HZ7 HBE HSA HO1 hbf
        have T2 := Sts.of X2 (by intro v hv; simp at hv; rcases hv with rfl | rfl | rfl | rfl <;> first | exact NotInt.bool _ | exact NotInt.slice _ _ _)
        cases b with
        | true =>
          have HV := Lib.hid (sgcd_one HY.out (of_decide_eq_true HBV.out))
          clear HBV HZ5 X5
          go_upto_region 7 with (fail)
          have hS1 : wf.cell? ⟨w.heap.size, 0, none⟩ = some (.bool s) ∧ wf.cell? ⟨w.heap.size, 1, none⟩ = some (.slice p n c) ∧ wf.cell? ⟨w.heap.size + 1, 0, none⟩ = some (.bool t) ∧ wf.cell? ⟨w.heap.size + 1, 1, none⟩ = some (.slice q m d) ∧ wf.cell? ⟨w.heap.size + 1 + 1, 0, none⟩ = some (cellOf wf ⟨w.heap.size + 1 + 1, 0, none⟩) ∧ wf.frozen? ⟨w.heap.size + 1 + 1, 0, none⟩ = false ∧ Sts wf (w.heap.size + 1 + 1) ∧ wf.cell? ⟨w.heap.size + 1 + 1, 1, none⟩ = some (cellOf wf ⟨w.heap.size + 1 + 1, 1, none⟩) ∧ wf.frozen? ⟨w.heap.size + 1 + 1, 1, none⟩ = false ∧ Sts wf (w.heap.size + 1 + 1) ∧ wf.cell? ⟨w.heap.size + 1 + 1, 2, none⟩ = some (cellOf wf ⟨w.heap.size + 1 + 1, 2, none⟩) ∧ wf.frozen? ⟨w.heap.size + 1 + 1, 2, none⟩ = false ∧ Sts wf (w.heap.size + 1 + 1) ∧ wf.cell? ⟨w.heap.size + 1 + 1, 3, none⟩ = some (cellOf wf ⟨w.heap.size + 1 + 1, 3, none⟩) ∧ wf.frozen? ⟨w.heap.size + 1 + 1, 3, none⟩ = false ∧ Sts wf (w.heap.size + 1 + 1) ∧ Below w.heap.size w wf ∧ w.heap.size ≤ wf.heap.size := ⟨X0.at_ 0 rfl, X0.at_ 1 rfl, X1.at_ 0 rfl, X1.at_ 1 rfl, cellOf_some (by rw [X2.at_ 0 rfl]; rfl), X2.free_ 0, T2, cellOf_some (by rw [X2.at_ 1 rfl]; rfl), X2.free_ 1, T2, cellOf_some (by rw [X2.at_ 2 rfl]; rfl), X2.free_ 2, T2, cellOf_some (by rw [X2.at_ 3 rfl]; rfl), X2.free_ 3, T2, HBF.out, Below.size (show Below w.heap.size w wf from HBF.out)⟩
          have hS0 : wf.drew.cell? ⟨w.heap.size, 0, none⟩ = some (.bool s) ∧ wf.drew.cell? ⟨w.heap.size, 1, none⟩ = some (.slice p n c) ∧ wf.drew.cell? ⟨w.heap.size + 1, 0, none⟩ = some (.bool t) ∧ wf.drew.cell? ⟨w.heap.size + 1, 1, none⟩ = some (.slice q m d) ∧ wf.drew.cell? ⟨w.heap.size + 1 + 1, 0, none⟩ = some (cellOf wf.drew ⟨w.heap.size + 1 + 1, 0, none⟩) ∧ wf.drew.frozen? ⟨w.heap.size + 1 + 1, 0, none⟩ = false ∧ Sts wf.drew (w.heap.size + 1 + 1) ∧ wf.drew.cell? ⟨w.heap.size + 1 + 1, 1, none⟩ = some (cellOf wf.drew ⟨w.heap.size + 1 + 1, 1, none⟩) ∧ wf.drew.frozen? ⟨w.heap.size + 1 + 1, 1, none⟩ = false ∧ Sts wf.drew (w.heap.size + 1 + 1) ∧ wf.drew.cell? ⟨w.heap.size + 1 + 1, 2, none⟩ = some (cellOf wf.drew ⟨w.heap.size + 1 + 1, 2, none⟩) ∧ wf.drew.frozen? ⟨w.heap.size + 1 + 1, 2, none⟩ = false ∧ Sts wf.drew (w.heap.size + 1 + 1) ∧ wf.drew.cell? ⟨w.heap.size + 1 + 1, 3, none⟩ = some (cellOf wf.drew ⟨w.heap.size + 1 + 1, 3, none⟩) ∧ wf.drew.frozen? ⟨w.heap.size + 1 + 1, 3, none⟩ = false ∧ Sts wf.drew (w.heap.size + 1 + 1) ∧ Below w.heap.size w wf.drew ∧ w.heap.size ≤ wf.drew.heap.size := S4_4_next (Below.refl _ wf).drew hS1
          clear X0 X1 X2 T2 hS1
          have M1 : True := trivial
          go_region_held3 (fun w1 => w1.cell? ⟨w.heap.size, 0, none⟩ = some (.bool s) ∧ w1.cell? ⟨w.heap.size, 1, none⟩ = some (.slice p n c) ∧ w1.cell? ⟨w.heap.size + 1, 0, none⟩ = some (.bool t) ∧ w1.cell? ⟨w.heap.size + 1, 1, none⟩ = some (.slice q m d) ∧ w1.cell? ⟨w.heap.size + 1 + 1, 0, none⟩ = some (cellOf w1 ⟨w.heap.size + 1 + 1, 0, none⟩) ∧ w1.frozen? ⟨w.heap.size + 1 + 1, 0, none⟩ = false ∧ Sts w1 (w.heap.size + 1 + 1) ∧ w1.cell? ⟨w.heap.size + 1 + 1, 1, none⟩ = some (cellOf w1 ⟨w.heap.size + 1 + 1, 1, none⟩) ∧ w1.frozen? ⟨w.heap.size + 1 + 1, 1, none⟩ = false ∧ Sts w1 (w.heap.size + 1 + 1) ∧ w1.cell? ⟨w.heap.size + 1 + 1, 2, none⟩ = some (cellOf w1 ⟨w.heap.size + 1 + 1, 2, none⟩) ∧ w1.frozen? ⟨w.heap.size + 1 + 1, 2, none⟩ = false ∧ Sts w1 (w.heap.size + 1 + 1) ∧ w1.cell? ⟨w.heap.size + 1 + 1, 3, none⟩ = some (cellOf w1 ⟨w.heap.size + 1 + 1, 3, none⟩) ∧ w1.frozen? ⟨w.heap.size + 1 + 1, 3, none⟩ = false ∧ Sts w1 (w.heap.size + 1 + 1) ∧ Below w.heap.size w w1 ∧ w.heap.size ≤ w1.heap.size)
            (first | with_reducible exact hS0 | (refine S4_4_next (by with_reducible assumption) ?_; assumption) | (refine S4_4_put ?_ ?_ ?_ ?_ ?_ ?_ ?_ ?_ ?_ ?_ ?_ ?_ ?_ ?_ ?_ ?_ ?_ ?_ ?_ ?_ ?_ ?_ ?_ ?_ ?_ <;> first | assumption | exact NotInt.bool _ | exact NotInt.slice _ _ _ | (dsimp only; omega) | (simp; done)))
            (first
              | (go_at_call 163; clear M1; refine (HN1.out _ (S4_4_below (by with_reducible assumption))).mono ?_; rintro e w2 ⟨⟨s2, p2, n2, e2, rfl, hz2⟩, hb2⟩; have HZ2 := Lib.hid hz2; clear hz2)
              | (go_at_call 163; refine (HN2.out _ (S4_4_below (by with_reducible assumption))).mono ?_; rintro e w3 ⟨⟨s3, p3, n3, e3, rfl, hz3⟩, hb3⟩; have HQ3 := Lib.hid (show Qs w3 s2 p2 n2 e2 s3 p3 n3 e3 (Rat.divInt x y) from ⟨by rw [HV.out.1]; exact HZ2.out.keep hb3, by rw [HV.out.2]; exact hz3⟩); clear hb2; obtain ⟨⟨hR0, hT⟩, ⟨hR1, _⟩, ⟨hR2, _⟩, ⟨hR3, _⟩⟩ := S4_4_end hb3 (by with_reducible assumption); have hq5 := Lib.hid (HQ3.out.put4 hT (.bool s2) (.slice p2 n2 e2) (.bool s3) (.slice p3 n3 e3) (NotInt.bool _) (NotInt.slice _ _ _) (NotInt.bool _)); clear hz3 hT))
          go_wp2
          try simp only [Exit.inBlock, Exit.then]
          refine bodyPost_ret (by simp [results, Tryz.results97, go_sem, hR0, hR1, hR2, hR3]; try rfl) rfl ?_
          exact ⟨⟨s2, p2, n2, e2, s3, p3, n3, e3, rfl, hq5.out⟩, S4_4_below (by assumption)⟩
        | false =>
          clear HBV
          go_upto_region 8 with (fail)
          have hS1 : wf.cell? ⟨w.heap.size, 0, none⟩ = some (.bool s) ∧ wf.cell? ⟨w.heap.size, 1, none⟩ = some (.slice p n c) ∧ wf.cell? ⟨w.heap.size + 1, 0, none⟩ = some (.bool t) ∧ wf.cell? ⟨w.heap.size + 1, 1, none⟩ = some (.slice q m d) ∧ wf.cell? ⟨g5, 0, none⟩ = some (.bool s7) ∧ wf.cell? ⟨g5, 1, none⟩ = some (.slice p7 n7 c7) ∧ wf.cell? ⟨w.heap.size + 1 + 1, 0, none⟩ = some (cellOf wf ⟨w.heap.size + 1 + 1, 0, none⟩) ∧ wf.frozen? ⟨w.heap.size + 1 + 1, 0, none⟩ = false ∧ Sts wf (w.heap.size + 1 + 1) ∧ wf.cell? ⟨w.heap.size + 1 + 1, 1, none⟩ = some (cellOf wf ⟨w.heap.size + 1 + 1, 1, none⟩) ∧ wf.frozen? ⟨w.heap.size + 1 + 1, 1, none⟩ = false ∧ Sts wf (w.heap.size + 1 + 1) ∧ wf.cell? ⟨w.heap.size + 1 + 1, 2, none⟩ = some (cellOf wf ⟨w.heap.size + 1 + 1, 2, none⟩) ∧ wf.frozen? ⟨w.heap.size + 1 + 1, 2, none⟩ = false ∧ Sts wf (w.heap.size + 1 + 1) ∧ wf.cell? ⟨w.heap.size + 1 + 1, 3, none⟩ = some (cellOf wf ⟨w.heap.size + 1 + 1, 3, none⟩) ∧ wf.frozen? ⟨w.heap.size + 1 + 1, 3, none⟩ = false ∧ Sts wf (w.heap.size + 1 + 1) ∧ Below w.heap.size w wf ∧ w.heap.size ≤ wf.heap.size := ⟨X0.at_ 0 rfl, X0.at_ 1 rfl, X1.at_ 0 rfl, X1.at_ 1 rfl, X5.at_ 0 rfl, X5.at_ 1 rfl, cellOf_some (by rw [X2.at_ 0 rfl]; rfl), X2.free_ 0, T2, cellOf_some (by rw [X2.at_ 1 rfl]; rfl), X2.free_ 1, T2, cellOf_some (by rw [X2.at_ 2 rfl]; rfl), X2.free_ 2, T2, cellOf_some (by rw [X2.at_ 3 rfl]; rfl), X2.free_ 3, T2, HBF.out, Below.size (show Below w.heap.size w wf from HBF.out)⟩
          have hS0 : wf.drew.cell? ⟨w.heap.size, 0, none⟩ = some (.bool s) ∧ wf.drew.cell? ⟨w.heap.size, 1, none⟩ = some (.slice p n c) ∧ wf.drew.cell? ⟨w.heap.size + 1, 0, none⟩ = some (.bool t) ∧ wf.drew.cell? ⟨w.heap.size + 1, 1, none⟩ = some (.slice q m d) ∧ wf.drew.cell? ⟨g5, 0, none⟩ = some (.bool s7) ∧ wf.drew.cell? ⟨g5, 1, none⟩ = some (.slice p7 n7 c7) ∧ wf.drew.cell? ⟨w.heap.size + 1 + 1, 0, none⟩ = some (cellOf wf.drew ⟨w.heap.size + 1 + 1, 0, none⟩) ∧ wf.drew.frozen? ⟨w.heap.size + 1 + 1, 0, none⟩ = false ∧ Sts wf.drew (w.heap.size + 1 + 1) ∧ wf.drew.cell? ⟨w.heap.size + 1 + 1, 1, none⟩ = some (cellOf wf.drew ⟨w.heap.size + 1 + 1, 1, none⟩) ∧ wf.drew.frozen? ⟨w.heap.size + 1 + 1, 1, none⟩ = false ∧ Sts wf.drew (w.heap.size + 1 + 1) ∧ wf.drew.cell? ⟨w.heap.size + 1 + 1, 2, none⟩ = some (cellOf wf.drew ⟨w.heap.size + 1 + 1, 2, none⟩) ∧ wf.drew.frozen? ⟨w.heap.size + 1 + 1, 2, none⟩ = false ∧ Sts wf.drew (w.heap.size + 1 + 1) ∧ wf.drew.cell? ⟨w.heap.size + 1 + 1, 3, none⟩ = some (cellOf wf.drew ⟨w.heap.size + 1 + 1, 3, none⟩) ∧ wf.drew.frozen? ⟨w.heap.size + 1 + 1, 3, none⟩ = false ∧ Sts wf.drew (w.heap.size + 1 + 1) ∧ Below w.heap.size w wf.drew ∧ w.heap.size ≤ wf.drew.heap.size := S6_4_next (Below.refl _ wf).drew hS1
          clear X0 X1 X2 X5 T2 hS1
          have M1 : True := trivial
          go_region_held3 (fun w1 => w1.cell? ⟨w.heap.size, 0, none⟩ = some (.bool s) ∧ w1.cell? ⟨w.heap.size, 1, none⟩ = some (.slice p n c) ∧ w1.cell? ⟨w.heap.size + 1, 0, none⟩ = some (.bool t) ∧ w1.cell? ⟨w.heap.size + 1, 1, none⟩ = some (.slice q m d) ∧ w1.cell? ⟨g5, 0, none⟩ = some (.bool s7) ∧ w1.cell? ⟨g5, 1, none⟩ = some (.slice p7 n7 c7) ∧ w1.cell? ⟨w.heap.size + 1 + 1, 0, none⟩ = some (cellOf w1 ⟨w.heap.size + 1 + 1, 0, none⟩) ∧ w1.frozen? ⟨w.heap.size + 1 + 1, 0, none⟩ = false ∧ Sts w1 (w.heap.size + 1 + 1) ∧ w1.cell? ⟨w.heap.size + 1 + 1, 1, none⟩ = some (cellOf w1 ⟨w.heap.size + 1 + 1, 1, none⟩) ∧ w1.frozen? ⟨w.heap.size + 1 + 1, 1, none⟩ = false ∧ Sts w1 (w.heap.size + 1 + 1) ∧ w1.cell? ⟨w.heap.size + 1 + 1, 2, none⟩ = some (cellOf w1 ⟨w.heap.size + 1 + 1, 2, none⟩) ∧ w1.frozen? ⟨w.heap.size + 1 + 1, 2, none⟩ = false ∧ Sts w1 (w.heap.size + 1 + 1) ∧ w1.cell? ⟨w.heap.size + 1 + 1, 3, none⟩ = some (cellOf w1 ⟨w.heap.size + 1 + 1, 3, none⟩) ∧ w1.frozen? ⟨w.heap.size + 1 + 1, 3, none⟩ = false ∧ Sts w1 (w.heap.size + 1 + 1) ∧ Below w.heap.size w w1 ∧ w.heap.size ≤ w1.heap.size)
            (first | with_reducible exact hS0 | (refine S6_4_next (by with_reducible assumption) ?_; assumption) | (refine S6_4_put ?_ ?_ ?_ ?_ ?_ ?_ ?_ ?_ ?_ ?_ ?_ ?_ ?_ ?_ ?_ ?_ ?_ ?_ ?_ ?_ ?_ ?_ ?_ ?_ ?_ ?_ ?_ ?_ ?_ ?_ ?_ ?_ ?_ <;> first | assumption | exact NotInt.bool _ | exact NotInt.slice _ _ _ | (dsimp only; omega) | (simp; done)))
            (first
              | (go_at_call 164; clear M1; refine (HD1.out _ (S6_4_below (by with_reducible assumption)) _ _ _ _ _ (HZ5.out.keep ((Below.refl _ wf).drew)) (sgcd_ne HY.out) hn7).mono ?_; rintro e w2 ⟨⟨s2, p2, n2, e2, rfl, hz2⟩, hb2⟩; have HZ2 := Lib.hid hz2; have HZ52 := Lib.hid (HZ5.out.keep (((Below.refl _ wf).drew).trans hb2)); clear hz2)
              | (go_at_call 164; refine (HD2.out _ (S6_4_below (by with_reducible assumption)) _ _ _ _ _ HZ52.out (sgcd_ne HY.out) hn7).mono ?_; rintro e w3 ⟨⟨s3, p3, n3, e3, rfl, hz3⟩, hb3⟩; have HQ3 := Lib.hid (show Qs w3 s2 p2 n2 e2 s3 p3 n3 e3 (Rat.divInt x y) from ⟨by rw [HXZ.out.1]; exact HZ2.out.keep hb3, by rw [HXZ.out.2]; exact hz3⟩); clear hb2; obtain ⟨⟨hR0, hT⟩, ⟨hR1, _⟩, ⟨hR2, _⟩, ⟨hR3, _⟩⟩ := S6_4_end hb3 (by with_reducible assumption); have hq5 := Lib.hid (HQ3.out.put4 hT (.bool s2) (.slice p2 n2 e2) (.bool s3) (.slice p3 n3 e3) (NotInt.bool _) (NotInt.slice _ _ _) (NotInt.bool _)); clear hz3 hT))
          go_wp2
          try simp only [Exit.inBlock, Exit.then]
          refine bodyPost_ret (by simp [results, Tryz.results97, go_sem, hR0, hR1, hR2, hR3]; try rfl) rfl ?_
          exact ⟨⟨s2, p2, n2, e2, s3, p3, n3, e3, rfl, hq5.out⟩, S6_4_below (by assumption)⟩
end Go.Proofs.YthikonjlgljikaaGreatDoor
