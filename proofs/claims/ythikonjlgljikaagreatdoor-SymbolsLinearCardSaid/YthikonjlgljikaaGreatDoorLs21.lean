/- Contracts of rational: Normal, Of, Mul. Contracts of rational: Sign, Add. -/
import Derived.Test.YthikonjlgljikaaGreatDoorLs20
namespace Go.Proofs.YthikonjlgljikaaGreatDoor
open Go.RowKit

theorem Qs.put4 {w : World} {R : Nat} (s0 : Sts w R) {s t : Bool} {p q : Option Addr} {n c m d : Nat} {r : Rat} (h : Qs w s p n c t q m d r) (v0 v1 v2 v3 : Value) (h0 : NotInt v0) (h1 : NotInt v1) (h2 : NotInt v2) :
    Qs ((((w.setCell ⟨R, 0, none⟩ v0).setCell ⟨R, 1, none⟩ v1).setCell ⟨R, 2, none⟩ v2).setCell ⟨R, 3, none⟩ v3) s p n c t q m d r := by
  have s1 := s0.put ⟨R, 0, none⟩ v0 h0
  have s2 := s1.put ⟨R, 1, none⟩ v1 h1
  have s3 := s2.put ⟨R, 2, none⟩ v2 h2
  exact ⟨(((h.1.put s0 0 _).put s1 1 _).put s2 2 _).put s3 3 _, (((h.2.put s0 0 _).put s1 1 _).put s2 2 _).put s3 3 _⟩
set_option maxHeartbeats 2000000 in
set_option maxRecDepth 100000 in
theorem c_qNormal (s : Bool) (p : Option Addr) (n c : Nat) (x : Int) (t : Bool) (q : Option Addr) (m d : Nat) (y : Int) (w : World) (h : Zr w s p n c x) (h' : Zr w t q m d y) (hn : n ≤ 4398046511100) (hm : m ≤ 4398046511100) :
    Calls Tryz.prog 114 #[.agg #[.bool s, .slice p n c, .bool t, .slice q m d]] w fun e w' => RetQ w' e (Rat.divInt x y) ∧ Below w.heap.size w w' := by
  have HC := Lib.hid (fun w1 (hb : Below w.heap.size w w1) => c_over s p n c x t q m d y w1 (h.keep hb) (h'.keep hb) hn hm)
  clear h h'
  go_enter Tryz.func114, Tryz.ntmps114
  go_wp2_with fail
  obtain ⟨w0, hw0⟩ : ∃ w0, ((w.alloc (.cells #[.bool s, .slice p n c, .bool t, .slice q m d] 35)).alloc (.cells #[.bool false, .slice none 0 0, .bool false, .slice none 0 0] 35)) = w0 := ⟨_, rfl⟩
  rw [hw0]
  obtain ⟨X0, X1, hb0⟩ := box2 w #[.bool s, .slice p n c, .bool t, .slice q m d] 35 #[.bool false, .slice none 0 0, .bool false, .slice none 0 0] 35
  rw [hw0] at X0 X1 hb0
  have HX1 := Lib.hid X1
  have HB0 := Lib.hid hb0
  clear X0 X1 hb0 hw0
  refine (HC.out _ HB0.out).mono ?_
  rintro e w2 ⟨⟨s2, p2, n2, e2, t2, q2, m2, d2, rfl, hq2⟩, hb2⟩
  have HQ := Lib.hid hq2
  have HR := Lib.hid (HX1.out.below_ hb2 HX1.out.lt)
  have HB := Lib.hid (HB0.out.trans (hb2.mono HB0.out.size))
  clear hq2 hb2 HX1 HB0 HC
  have r0 := HR.out.at_ 0 rfl
  have r1 := HR.out.at_ 1 rfl
  have r2 := HR.out.at_ 2 rfl
  have r3 := HR.out.at_ 3 rfl
  have f0 := HR.out.free_ 0
  have f1 := HR.out.free_ 1
  have f2 := HR.out.free_ 2
  have f3 := HR.out.free_ 3
  obtain ⟨w9, hw9⟩ : ∃ w9, (((w2.setCell ⟨w.heap.size + 1, 0, none⟩ (.bool s2)).setCell ⟨w.heap.size + 1, 1, none⟩ (.slice p2 n2 e2)).setCell ⟨w.heap.size + 1, 2, none⟩ (.bool t2)).setCell ⟨w.heap.size + 1, 3, none⟩ (.slice q2 m2 d2) = w9 := ⟨_, rfl⟩
  obtain ⟨E0, E1, E2, E3, hq9⟩ := rat_put HR.out HQ.out hw9
  have hb9 : Below w.heap.size w w9 := by rw [← hw9]; exact below_putR HB.out (by omega) _ _ _ _
  have HW9 := Lib.hid hw9
  have HE9 := Lib.hid (And.intro E0 (And.intro E1 (And.intro E2 E3)))
  have HQ9 := Lib.hid hq9
  have HB9 := Lib.hid hb9
  clear E0 E1 E2 E3 hq9 hb9 hw9 HQ HB HR
  go_wp2
  try rw [HW9.out]
  obtain ⟨E0, E1, E2, E3⟩ := HE9.out
  try simp only [Exit.inBlock, Exit.then]
  refine bodyPost_ret (by simp [results, Tryz.results114, go_sem, E0, E1, E2, E3]; try rfl) rfl ?_
  exact ⟨⟨s2, p2, n2, e2, t2, q2, m2, d2, rfl, HQ9.out⟩, HB9.out⟩
set_option maxHeartbeats 2000000 in
set_option maxRecDepth 100000 in
theorem c_qOf (z : Int) (w : World) (h1 : -4611686018427387904 ≤ z) (h2 : z ≤ 4611686018427387904) :
    Calls Tryz.prog 49 #[.int .i64 z] w fun e w' => RetQ w' e (z : Rat) ∧ Below w.heap.size w w' := by
  have HC := Lib.hid (fun w1 => c_Of z w1 h1 h2)
  have HO := Lib.hid (fun w1 => c_Of 1 w1 (by omega) (by omega))
  clear h1 h2
  go_enter Tryz.func49, Tryz.ntmps49
  go_wp2_with fail
  obtain ⟨w0, hw0⟩ : ∃ w0, w.alloc (.cells #[.bool false, .slice none 0 0, .bool false, .slice none 0 0] 35) = w0 := ⟨_, rfl⟩
  rw [hw0]
  obtain ⟨X0, hb0⟩ := box1 w #[.bool false, .slice none 0 0, .bool false, .slice none 0 0] 35
  rw [hw0] at X0 hb0
  have HX0 := Lib.hid X0
  have HB0 := Lib.hid hb0
  clear X0 hb0 hw0
  refine (HC.out _).mono ?_
  rintro e w1 ⟨⟨s2, p2, n2, e2, rfl, hz2⟩, hb1⟩
  have HZ2 := Lib.hid hz2
  have HB1 := Lib.hid (HB0.out.trans (hb1.mono HB0.out.size))
  replace HX0 := Lib.hid (HX0.out.below_ hb1 HX0.out.lt)
  clear hz2 hb1 HC
  go_wp2_with fail
  refine (HO.out _).mono ?_
  rintro e w2 ⟨⟨t2, q2, m2, d2, rfl, hz3⟩, hb2⟩
  have HQ := Lib.hid (show Qs w2 s2 p2 n2 e2 t2 q2 m2 d2 (z : Rat) from ⟨HZ2.out.keep hb2, hz3⟩)
  have HR := Lib.hid (HX0.out.below_ hb2 HX0.out.lt)
  have HB := Lib.hid (HB1.out.trans (hb2.mono HB1.out.size))
  clear hz3 hb2 HX0 HB1 HZ2 HO HB0
  have r0 := HR.out.at_ 0 rfl
  have r1 := HR.out.at_ 1 rfl
  have r2 := HR.out.at_ 2 rfl
  have r3 := HR.out.at_ 3 rfl
  have f0 := HR.out.free_ 0
  have f1 := HR.out.free_ 1
  have f2 := HR.out.free_ 2
  have f3 := HR.out.free_ 3
  obtain ⟨w9, hw9⟩ : ∃ w9, (((w2.setCell ⟨w.heap.size, 0, none⟩ (.bool s2)).setCell ⟨w.heap.size, 1, none⟩ (.slice p2 n2 e2)).setCell ⟨w.heap.size, 2, none⟩ (.bool t2)).setCell ⟨w.heap.size, 3, none⟩ (.slice q2 m2 d2) = w9 := ⟨_, rfl⟩
  obtain ⟨E0, E1, E2, E3, hq9⟩ := rat_put HR.out HQ.out hw9
  have hb9 : Below w.heap.size w w9 := by rw [← hw9]; exact below_putR HB.out (by omega) _ _ _ _
  have HW9 := Lib.hid hw9
  have HE9 := Lib.hid (And.intro E0 (And.intro E1 (And.intro E2 E3)))
  have HQ9 := Lib.hid hq9
  have HB9 := Lib.hid hb9
  clear E0 E1 E2 E3 hq9 hb9 hw9 HQ HB HR
  go_wp2
  try rw [HW9.out]
  obtain ⟨E0, E1, E2, E3⟩ := HE9.out
  try simp only [Exit.inBlock, Exit.then]
  refine bodyPost_ret (by simp [results, Tryz.results49, go_sem, E0, E1, E2, E3]; try rfl) rfl ?_
  exact ⟨⟨s2, p2, n2, e2, t2, q2, m2, d2, rfl, HQ9.out⟩, HB9.out⟩
set_option maxHeartbeats 2000000 in
set_option maxRecDepth 100000 in
theorem c_qMul (s : Bool) (p : Option Addr) (n c : Nat) (x : Int) (t : Bool) (q : Option Addr) (m d : Nat) (y : Int) (s' : Bool) (p' : Option Addr) (n' c' : Nat) (x' : Int) (t' : Bool) (q' : Option Addr) (m' d' : Nat) (y' : Int) (w : World) (h1 : Zr w s p n c x) (h2 : Zr w t q m d y) (h3 : Zr w s' p' n' c' x') (h4 : Zr w t' q' m' d' y') (hn : n ≤ 2199023255500) (hm : m ≤ 2199023255500) (hn' : n' ≤ 2199023255500) (hm' : m' ≤ 2199023255500) :
    Calls Tryz.prog 38 #[.agg #[.bool s, .slice p n c, .bool t, .slice q m d], .agg #[.bool s', .slice p' n' c', .bool t', .slice q' m' d']] w fun e w' => RetQ w' e (Rat.divInt x y * Rat.divInt x' y') ∧ Below w.heap.size w w' := by
  have HV := Lib.hid (Rat.divInt_mul_divInt x x' (d₁ := y) (d₂ := y'))
  have HS1 := Lib.hid (show nd (x * x').natAbs ≤ 4398046511100 by rw [Int.natAbs_mul]; have := nd_mul x.natAbs x'.natAbs; have := h1.size; have := h3.size; omega)
  have HS2 := Lib.hid (show nd (y * y').natAbs ≤ 4398046511100 by rw [Int.natAbs_mul]; have := nd_mul y.natAbs y'.natAbs; have := h2.size; have := h4.size; omega)
  have HC1 := Lib.hid (fun w1 (hb : Below w.heap.size w w1) => c_Mul s p n c x s' p' n' c' x' w1 (h1.keep hb) (h3.keep hb) (by omega) (by omega))
  have HC2 := Lib.hid (fun w1 (hb : Below w.heap.size w w1) => c_Mul t q m d y t' q' m' d' y' w1 (h2.keep hb) (h4.keep hb) (by omega) (by omega))
  clear h1 h2 h3 h4
  go_enter Tryz.func38, Tryz.ntmps38
  go_upto_region 1 with (fail)
  obtain ⟨w0, hw0⟩ : ∃ w0, (((w.alloc (.cells #[.bool s, .slice p n c, .bool t, .slice q m d] 35)).alloc (.cells #[.bool s', .slice p' n' c', .bool t', .slice q' m' d'] 35)).alloc (.cells #[.bool false, .slice none 0 0, .bool false, .slice none 0 0] 35)) = w0 := ⟨_, rfl⟩
  rw [hw0]
  obtain ⟨X0, X1, X2, hb0⟩ := box3 w #[.bool s, .slice p n c, .bool t, .slice q m d] 35 #[.bool s', .slice p' n' c', .bool t', .slice q' m' d'] 35 #[.bool false, .slice none 0 0, .bool false, .slice none 0 0] 35
  rw [hw0] at X0 X1 X2 hb0
  have hs0 : w.heap.size ≤ w0.heap.size := hb0.size
  clear hw0
  have M1 : True := trivial
  have T2 := Sts.of X2 (by intro v hv; simp at hv; rcases hv with rfl | rfl | rfl | rfl <;> first | exact NotInt.bool _ | exact NotInt.slice _ _ _)
  have hS1 : w0.cell? ⟨w.heap.size, 0, none⟩ = some (.bool s) ∧ w0.cell? ⟨w.heap.size, 1, none⟩ = some (.slice p n c) ∧ w0.cell? ⟨w.heap.size, 2, none⟩ = some (.bool t) ∧ w0.cell? ⟨w.heap.size, 3, none⟩ = some (.slice q m d) ∧ w0.cell? ⟨w.heap.size + 1, 0, none⟩ = some (.bool s') ∧ w0.cell? ⟨w.heap.size + 1, 1, none⟩ = some (.slice p' n' c') ∧ w0.cell? ⟨w.heap.size + 1, 2, none⟩ = some (.bool t') ∧ w0.cell? ⟨w.heap.size + 1, 3, none⟩ = some (.slice q' m' d') ∧ w0.cell? ⟨w.heap.size + 1 + 1, 0, none⟩ = some (cellOf w0 ⟨w.heap.size + 1 + 1, 0, none⟩) ∧ w0.frozen? ⟨w.heap.size + 1 + 1, 0, none⟩ = false ∧ Sts w0 (w.heap.size + 1 + 1) ∧ w0.cell? ⟨w.heap.size + 1 + 1, 1, none⟩ = some (cellOf w0 ⟨w.heap.size + 1 + 1, 1, none⟩) ∧ w0.frozen? ⟨w.heap.size + 1 + 1, 1, none⟩ = false ∧ Sts w0 (w.heap.size + 1 + 1) ∧ w0.cell? ⟨w.heap.size + 1 + 1, 2, none⟩ = some (cellOf w0 ⟨w.heap.size + 1 + 1, 2, none⟩) ∧ w0.frozen? ⟨w.heap.size + 1 + 1, 2, none⟩ = false ∧ Sts w0 (w.heap.size + 1 + 1) ∧ w0.cell? ⟨w.heap.size + 1 + 1, 3, none⟩ = some (cellOf w0 ⟨w.heap.size + 1 + 1, 3, none⟩) ∧ w0.frozen? ⟨w.heap.size + 1 + 1, 3, none⟩ = false ∧ Sts w0 (w.heap.size + 1 + 1) ∧ Below w.heap.size w w0 ∧ w.heap.size ≤ w0.heap.size := ⟨X0.at_ 0 rfl, X0.at_ 1 rfl, X0.at_ 2 rfl, X0.at_ 3 rfl, X1.at_ 0 rfl, X1.at_ 1 rfl, X1.at_ 2 rfl, X1.at_ 3 rfl, cellOf_some (by rw [X2.at_ 0 rfl]; rfl), X2.free_ 0, T2, cellOf_some (by rw [X2.at_ 1 rfl]; rfl), X2.free_ 1, T2, cellOf_some (by rw [X2.at_ 2 rfl]; rfl), X2.free_ 2, T2, cellOf_some (by rw [X2.at_ 3 rfl]; rfl), X2.free_ 3, T2, hb0, hs0⟩
  have hS0 : w0.drew.cell? ⟨w.heap.size, 0, none⟩ = some (.bool s) ∧ w0.drew.cell? ⟨w.heap.size, 1, none⟩ = some (.slice p n c) ∧ w0.drew.cell? ⟨w.heap.size, 2, none⟩ = some (.bool t) ∧ w0.drew.cell? ⟨w.heap.size, 3, none⟩ = some (.slice q m d) ∧ w0.drew.cell? ⟨w.heap.size + 1, 0, none⟩ = some (.bool s') ∧ w0.drew.cell? ⟨w.heap.size + 1, 1, none⟩ = some (.slice p' n' c') ∧ w0.drew.cell? ⟨w.heap.size + 1, 2, none⟩ = some (.bool t') ∧ w0.drew.cell? ⟨w.heap.size + 1, 3, none⟩ = some (.slice q' m' d') ∧ w0.drew.cell? ⟨w.heap.size + 1 + 1, 0, none⟩ = some (cellOf w0.drew ⟨w.heap.size + 1 + 1, 0, none⟩) ∧ w0.drew.frozen? ⟨w.heap.size + 1 + 1, 0, none⟩ = false ∧ Sts w0.drew (w.heap.size + 1 + 1) ∧ w0.drew.cell? ⟨w.heap.size + 1 + 1, 1, none⟩ = some (cellOf w0.drew ⟨w.heap.size + 1 + 1, 1, none⟩) ∧ w0.drew.frozen? ⟨w.heap.size + 1 + 1, 1, none⟩ = false ∧ Sts w0.drew (w.heap.size + 1 + 1) ∧ w0.drew.cell? ⟨w.heap.size + 1 + 1, 2, none⟩ = some (cellOf w0.drew ⟨w.heap.size + 1 + 1, 2, none⟩) ∧ w0.drew.frozen? ⟨w.heap.size + 1 + 1, 2, none⟩ = false ∧ Sts w0.drew (w.heap.size + 1 + 1) ∧ w0.drew.cell? ⟨w.heap.size + 1 + 1, 3, none⟩ = some (cellOf w0.drew ⟨w.heap.size + 1 + 1, 3, none⟩) ∧ w0.drew.frozen? ⟨w.heap.size + 1 + 1, 3, none⟩ = false ∧ Sts w0.drew (w.heap.size + 1 + 1) ∧ Below w.heap.size w w0.drew ∧ w.heap.size ≤ w0.drew.heap.size := S8_4_next (Below.refl _ w0).drew hS1
  clear X0 X1 X2 hS1
  go_region_held3 (fun w1 => w1.cell? ⟨w.heap.size, 0, none⟩ = some (.bool s) ∧ w1.cell? ⟨w.heap.size, 1, none⟩ = some (.slice p n c) ∧ w1.cell? ⟨w.heap.size, 2, none⟩ = some (.bool t) ∧ w1.cell? ⟨w.heap.size, 3, none⟩ = some (.slice q m d) ∧ w1.cell? ⟨w.heap.size + 1, 0, none⟩ = some (.bool s') ∧ w1.cell? ⟨w.heap.size + 1, 1, none⟩ = some (.slice p' n' c') ∧ w1.cell? ⟨w.heap.size + 1, 2, none⟩ = some (.bool t') ∧ w1.cell? ⟨w.heap.size + 1, 3, none⟩ = some (.slice q' m' d') ∧ w1.cell? ⟨w.heap.size + 1 + 1, 0, none⟩ = some (cellOf w1 ⟨w.heap.size + 1 + 1, 0, none⟩) ∧ w1.frozen? ⟨w.heap.size + 1 + 1, 0, none⟩ = false ∧ Sts w1 (w.heap.size + 1 + 1) ∧ w1.cell? ⟨w.heap.size + 1 + 1, 1, none⟩ = some (cellOf w1 ⟨w.heap.size + 1 + 1, 1, none⟩) ∧ w1.frozen? ⟨w.heap.size + 1 + 1, 1, none⟩ = false ∧ Sts w1 (w.heap.size + 1 + 1) ∧ w1.cell? ⟨w.heap.size + 1 + 1, 2, none⟩ = some (cellOf w1 ⟨w.heap.size + 1 + 1, 2, none⟩) ∧ w1.frozen? ⟨w.heap.size + 1 + 1, 2, none⟩ = false ∧ Sts w1 (w.heap.size + 1 + 1) ∧ w1.cell? ⟨w.heap.size + 1 + 1, 3, none⟩ = some (cellOf w1 ⟨w.heap.size + 1 + 1, 3, none⟩) ∧ w1.frozen? ⟨w.heap.size + 1 + 1, 3, none⟩ = false ∧ Sts w1 (w.heap.size + 1 + 1) ∧ Below w.heap.size w w1 ∧ w.heap.size ≤ w1.heap.size)
    (first | with_reducible exact hS0 | (refine S8_4_next (by with_reducible assumption) ?_; assumption) | (refine S8_4_put ?_ ?_ ?_ ?_ ?_ ?_ ?_ ?_ ?_ ?_ ?_ ?_ ?_ ?_ ?_ ?_ ?_ ?_ ?_ ?_ ?_ ?_ ?_ ?_ ?_ ?_ ?_ ?_ ?_ ?_ ?_ ?_ ?_ ?_ ?_ ?_ ?_ ?_ ?_ ?_ ?_ <;> first | assumption | exact NotInt.bool _ | exact NotInt.slice _ _ _ | (dsimp only; omega) | (simp; done)))
    (first
      | (go_at_call 78; clear M1; refine (HC1.out _ (S8_4_below (by with_reducible assumption))).mono ?_; rintro e w2 ⟨⟨s2, p2, n2, e2, rfl, hz2⟩, hb2⟩; have HZ2 := Lib.hid hz2; clear hz2)
      | (go_at_call 78; refine (HC2.out _ (S8_4_below (by with_reducible assumption))).mono ?_; rintro e w3 ⟨⟨s3, p3, n3, e3, rfl, hz3⟩, hb3⟩; have HOV := Lib.hid (c_over s2 p2 n2 e2 (x * x') s3 p3 n3 e3 (y * y') w3 (HZ2.out.keep hb3).raw hz3.raw (by rw [← HZ2.out.2.1]; exact HS1.out) (by rw [← hz3.2.1]; exact HS2.out)); clear hz3 hb2 HZ2)
      | (go_at_call 77; refine HOV.out.mono ?_; rintro e w4 ⟨⟨s4, p4, n4, e4, t4, q4, m4, d4, rfl, hq4⟩, hb4⟩; clear hb3; obtain ⟨⟨hR0, hT⟩, ⟨hR1, _⟩, ⟨hR2, _⟩, ⟨hR3, _⟩⟩ := S8_4_end hb4 (by with_reducible assumption); have hq5 := Lib.hid (hq4.put4 hT (.bool s4) (.slice p4 n4 e4) (.bool t4) (.slice q4 m4 d4) (NotInt.bool _) (NotInt.slice _ _ _) (NotInt.bool _)); clear hq4 hT))
  go_wp2
  try simp only [Exit.inBlock, Exit.then]
  refine bodyPost_ret (by simp [results, Tryz.results38, go_sem, hR0, hR1, hR2, hR3]; try rfl) rfl ?_
  exact ⟨⟨s4, p4, n4, e4, t4, q4, m4, d4, rfl, HV.out ▸ hq5.out⟩, S8_4_below (by assumption)⟩
end Go.Proofs.YthikonjlgljikaaGreatDoor
namespace Go.Proofs.YthikonjlgljikaaGreatDoor
open Go.RowKit

theorem S4_0_next {B : Nat} {w0 w w' : World} {a0 a1 a2 a3 : Addr} {v0 v1 v2 v3 : Value} (hb : Below w.heap.size w w') (h : w.cell? a0 = some v0 ∧ w.cell? a1 = some v1 ∧ w.cell? a2 = some v2 ∧ w.cell? a3 = some v3 ∧ Below B w0 w ∧ B ≤ w.heap.size) : w'.cell? a0 = some v0 ∧ w'.cell? a1 = some v1 ∧ w'.cell? a2 = some v2 ∧ w'.cell? a3 = some v3 ∧ Below B w0 w' ∧ B ≤ w'.heap.size := SS.next (B := B) (w0 := w0) (l := [(a0, v0), (a1, v1), (a2, v2), (a3, v3)]) (m := []) hb h
theorem S4_0_below {B : Nat} {w0 w : World} {a0 a1 a2 a3 : Addr} {v0 v1 v2 v3 : Value} (h : w.cell? a0 = some v0 ∧ w.cell? a1 = some v1 ∧ w.cell? a2 = some v2 ∧ w.cell? a3 = some v3 ∧ Below B w0 w ∧ B ≤ w.heap.size) : Below B w0 w := SS.below (B := B) (w0 := w0) (l := [(a0, v0), (a1, v1), (a2, v2), (a3, v3)]) (m := []) h
theorem S8_0_next {B : Nat} {w0 w w' : World} {a0 a1 a2 a3 a4 a5 a6 a7 : Addr} {v0 v1 v2 v3 v4 v5 v6 v7 : Value} (hb : Below w.heap.size w w') (h : w.cell? a0 = some v0 ∧ w.cell? a1 = some v1 ∧ w.cell? a2 = some v2 ∧ w.cell? a3 = some v3 ∧ w.cell? a4 = some v4 ∧ w.cell? a5 = some v5 ∧ w.cell? a6 = some v6 ∧ w.cell? a7 = some v7 ∧ Below B w0 w ∧ B ≤ w.heap.size) : w'.cell? a0 = some v0 ∧ w'.cell? a1 = some v1 ∧ w'.cell? a2 = some v2 ∧ w'.cell? a3 = some v3 ∧ w'.cell? a4 = some v4 ∧ w'.cell? a5 = some v5 ∧ w'.cell? a6 = some v6 ∧ w'.cell? a7 = some v7 ∧ Below B w0 w' ∧ B ≤ w'.heap.size := SS.next (B := B) (w0 := w0) (l := [(a0, v0), (a1, v1), (a2, v2), (a3, v3), (a4, v4), (a5, v5), (a6, v6), (a7, v7)]) (m := []) hb h
theorem S8_0_below {B : Nat} {w0 w : World} {a0 a1 a2 a3 a4 a5 a6 a7 : Addr} {v0 v1 v2 v3 v4 v5 v6 v7 : Value} (h : w.cell? a0 = some v0 ∧ w.cell? a1 = some v1 ∧ w.cell? a2 = some v2 ∧ w.cell? a3 = some v3 ∧ w.cell? a4 = some v4 ∧ w.cell? a5 = some v5 ∧ w.cell? a6 = some v6 ∧ w.cell? a7 = some v7 ∧ Below B w0 w ∧ B ≤ w.heap.size) : Below B w0 w := SS.below (B := B) (w0 := w0) (l := [(a0, v0), (a1, v1), (a2, v2), (a3, v3), (a4, v4), (a5, v5), (a6, v6), (a7, v7)]) (m := []) h
theorem S6_4_next {B : Nat} {w0 w w' : World} {a0 a1 a2 a3 a4 a5 b0 b1 b2 b3 : Addr} {v0 v1 v2 v3 v4 v5 : Value} (hb : Below w.heap.size w w') (h : w.cell? a0 = some v0 ∧ w.cell? a1 = some v1 ∧ w.cell? a2 = some v2 ∧ w.cell? a3 = some v3 ∧ w.cell? a4 = some v4 ∧ w.cell? a5 = some v5 ∧ w.cell? b0 = some (cellOf w b0) ∧ w.frozen? b0 = false ∧ Sts w b0.block ∧ w.cell? b1 = some (cellOf w b1) ∧ w.frozen? b1 = false ∧ Sts w b1.block ∧ w.cell? b2 = some (cellOf w b2) ∧ w.frozen? b2 = false ∧ Sts w b2.block ∧ w.cell? b3 = some (cellOf w b3) ∧ w.frozen? b3 = false ∧ Sts w b3.block ∧ Below B w0 w ∧ B ≤ w.heap.size) : w'.cell? a0 = some v0 ∧ w'.cell? a1 = some v1 ∧ w'.cell? a2 = some v2 ∧ w'.cell? a3 = some v3 ∧ w'.cell? a4 = some v4 ∧ w'.cell? a5 = some v5 ∧ w'.cell? b0 = some (cellOf w' b0) ∧ w'.frozen? b0 = false ∧ Sts w' b0.block ∧ w'.cell? b1 = some (cellOf w' b1) ∧ w'.frozen? b1 = false ∧ Sts w' b1.block ∧ w'.cell? b2 = some (cellOf w' b2) ∧ w'.frozen? b2 = false ∧ Sts w' b2.block ∧ w'.cell? b3 = some (cellOf w' b3) ∧ w'.frozen? b3 = false ∧ Sts w' b3.block ∧ Below B w0 w' ∧ B ≤ w'.heap.size := SS.next (B := B) (w0 := w0) (l := [(a0, v0), (a1, v1), (a2, v2), (a3, v3), (a4, v4), (a5, v5)]) (m := [b0, b1, b2, b3]) hb h
theorem S6_4_below {B : Nat} {w0 w : World} {a0 a1 a2 a3 a4 a5 b0 b1 b2 b3 : Addr} {v0 v1 v2 v3 v4 v5 : Value} (h : w.cell? a0 = some v0 ∧ w.cell? a1 = some v1 ∧ w.cell? a2 = some v2 ∧ w.cell? a3 = some v3 ∧ w.cell? a4 = some v4 ∧ w.cell? a5 = some v5 ∧ w.cell? b0 = some (cellOf w b0) ∧ w.frozen? b0 = false ∧ Sts w b0.block ∧ w.cell? b1 = some (cellOf w b1) ∧ w.frozen? b1 = false ∧ Sts w b1.block ∧ w.cell? b2 = some (cellOf w b2) ∧ w.frozen? b2 = false ∧ Sts w b2.block ∧ w.cell? b3 = some (cellOf w b3) ∧ w.frozen? b3 = false ∧ Sts w b3.block ∧ Below B w0 w ∧ B ≤ w.heap.size) : Below B w0 w := SS.below (B := B) (w0 := w0) (l := [(a0, v0), (a1, v1), (a2, v2), (a3, v3), (a4, v4), (a5, v5)]) (m := [b0, b1, b2, b3]) h
theorem S6_4_end {B : Nat} {w0 w w' : World} {a0 a1 a2 a3 a4 a5 b0 b1 b2 b3 : Addr} {v0 v1 v2 v3 v4 v5 : Value} (hb : Below w.heap.size w w') (h : w.cell? a0 = some v0 ∧ w.cell? a1 = some v1 ∧ w.cell? a2 = some v2 ∧ w.cell? a3 = some v3 ∧ w.cell? a4 = some v4 ∧ w.cell? a5 = some v5 ∧ w.cell? b0 = some (cellOf w b0) ∧ w.frozen? b0 = false ∧ Sts w b0.block ∧ w.cell? b1 = some (cellOf w b1) ∧ w.frozen? b1 = false ∧ Sts w b1.block ∧ w.cell? b2 = some (cellOf w b2) ∧ w.frozen? b2 = false ∧ Sts w b2.block ∧ w.cell? b3 = some (cellOf w b3) ∧ w.frozen? b3 = false ∧ Sts w b3.block ∧ Below B w0 w ∧ B ≤ w.heap.size) : ((w'.cell? b0).isSome = true ∧ Sts w' b0.block) ∧ ((w'.cell? b1).isSome = true ∧ Sts w' b1.block) ∧ ((w'.cell? b2).isSome = true ∧ Sts w' b2.block) ∧ ((w'.cell? b3).isSome = true ∧ Sts w' b3.block) := ⟨SS.end_ (B := B) (w0 := w0) (l := [(a0, v0), (a1, v1), (a2, v2), (a3, v3), (a4, v4), (a5, v5)]) (m := [b0, b1, b2, b3]) hb h (by simp), SS.end_ (B := B) (w0 := w0) (l := [(a0, v0), (a1, v1), (a2, v2), (a3, v3), (a4, v4), (a5, v5)]) (m := [b0, b1, b2, b3]) hb h (by simp), SS.end_ (B := B) (w0 := w0) (l := [(a0, v0), (a1, v1), (a2, v2), (a3, v3), (a4, v4), (a5, v5)]) (m := [b0, b1, b2, b3]) hb h (by simp), SS.end_ (B := B) (w0 := w0) (l := [(a0, v0), (a1, v1), (a2, v2), (a3, v3), (a4, v4), (a5, v5)]) (m := [b0, b1, b2, b3]) hb h (by simp)⟩
theorem S6_4_put {B : Nat} {w0 w : World} {a0 a1 a2 a3 a4 a5 b0 b1 b2 b3 : Addr} {v0 v1 v2 v3 v4 v5 : Value} (h : w.cell? a0 = some v0 ∧ w.cell? a1 = some v1 ∧ w.cell? a2 = some v2 ∧ w.cell? a3 = some v3 ∧ w.cell? a4 = some v4 ∧ w.cell? a5 = some v5 ∧ w.cell? b0 = some (cellOf w b0) ∧ w.frozen? b0 = false ∧ Sts w b0.block ∧ w.cell? b1 = some (cellOf w b1) ∧ w.frozen? b1 = false ∧ Sts w b1.block ∧ w.cell? b2 = some (cellOf w b2) ∧ w.frozen? b2 = false ∧ Sts w b2.block ∧ w.cell? b3 = some (cellOf w b3) ∧ w.frozen? b3 = false ∧ Sts w b3.block ∧ Below B w0 w ∧ B ≤ w.heap.size) {p0 p1 p2 p3 : Addr} {u0 u1 u2 u3 : Value} (hi0 : NotInt u0) (hp0 : B ≤ p0.block) (hn0_0 : p0.block ≠ a0.block) (hn0_1 : p0.block ≠ a1.block) (hn0_2 : p0.block ≠ a2.block) (hn0_3 : p0.block ≠ a3.block) (hn0_4 : p0.block ≠ a4.block) (hn0_5 : p0.block ≠ a5.block) (hi1 : NotInt u1) (hp1 : B ≤ p1.block) (hn1_0 : p1.block ≠ a0.block) (hn1_1 : p1.block ≠ a1.block) (hn1_2 : p1.block ≠ a2.block) (hn1_3 : p1.block ≠ a3.block) (hn1_4 : p1.block ≠ a4.block) (hn1_5 : p1.block ≠ a5.block) (hi2 : NotInt u2) (hp2 : B ≤ p2.block) (hn2_0 : p2.block ≠ a0.block) (hn2_1 : p2.block ≠ a1.block) (hn2_2 : p2.block ≠ a2.block) (hn2_3 : p2.block ≠ a3.block) (hn2_4 : p2.block ≠ a4.block) (hn2_5 : p2.block ≠ a5.block) (hi3 : NotInt u3) (hp3 : B ≤ p3.block) (hn3_0 : p3.block ≠ a0.block) (hn3_1 : p3.block ≠ a1.block) (hn3_2 : p3.block ≠ a2.block) (hn3_3 : p3.block ≠ a3.block) (hn3_4 : p3.block ≠ a4.block) (hn3_5 : p3.block ≠ a5.block) : ((((w.setCell p0 u0).setCell p1 u1).setCell p2 u2).setCell p3 u3).cell? a0 = some v0 ∧ ((((w.setCell p0 u0).setCell p1 u1).setCell p2 u2).setCell p3 u3).cell? a1 = some v1 ∧ ((((w.setCell p0 u0).setCell p1 u1).setCell p2 u2).setCell p3 u3).cell? a2 = some v2 ∧ ((((w.setCell p0 u0).setCell p1 u1).setCell p2 u2).setCell p3 u3).cell? a3 = some v3 ∧ ((((w.setCell p0 u0).setCell p1 u1).setCell p2 u2).setCell p3 u3).cell? a4 = some v4 ∧ ((((w.setCell p0 u0).setCell p1 u1).setCell p2 u2).setCell p3 u3).cell? a5 = some v5 ∧ ((((w.setCell p0 u0).setCell p1 u1).setCell p2 u2).setCell p3 u3).cell? b0 = some (cellOf ((((w.setCell p0 u0).setCell p1 u1).setCell p2 u2).setCell p3 u3) b0) ∧ ((((w.setCell p0 u0).setCell p1 u1).setCell p2 u2).setCell p3 u3).frozen? b0 = false ∧ Sts ((((w.setCell p0 u0).setCell p1 u1).setCell p2 u2).setCell p3 u3) b0.block ∧ ((((w.setCell p0 u0).setCell p1 u1).setCell p2 u2).setCell p3 u3).cell? b1 = some (cellOf ((((w.setCell p0 u0).setCell p1 u1).setCell p2 u2).setCell p3 u3) b1) ∧ ((((w.setCell p0 u0).setCell p1 u1).setCell p2 u2).setCell p3 u3).frozen? b1 = false ∧ Sts ((((w.setCell p0 u0).setCell p1 u1).setCell p2 u2).setCell p3 u3) b1.block ∧ ((((w.setCell p0 u0).setCell p1 u1).setCell p2 u2).setCell p3 u3).cell? b2 = some (cellOf ((((w.setCell p0 u0).setCell p1 u1).setCell p2 u2).setCell p3 u3) b2) ∧ ((((w.setCell p0 u0).setCell p1 u1).setCell p2 u2).setCell p3 u3).frozen? b2 = false ∧ Sts ((((w.setCell p0 u0).setCell p1 u1).setCell p2 u2).setCell p3 u3) b2.block ∧ ((((w.setCell p0 u0).setCell p1 u1).setCell p2 u2).setCell p3 u3).cell? b3 = some (cellOf ((((w.setCell p0 u0).setCell p1 u1).setCell p2 u2).setCell p3 u3) b3) ∧ ((((w.setCell p0 u0).setCell p1 u1).setCell p2 u2).setCell p3 u3).frozen? b3 = false ∧ Sts ((((w.setCell p0 u0).setCell p1 u1).setCell p2 u2).setCell p3 u3) b3.block ∧ Below B w0 ((((w.setCell p0 u0).setCell p1 u1).setCell p2 u2).setCell p3 u3) ∧ B ≤ ((((w.setCell p0 u0).setCell p1 u1).setCell p2 u2).setCell p3 u3).heap.size := (SS.put (B := B) (w0 := w0) (l := [(a0, v0), (a1, v1), (a2, v2), (a3, v3), (a4, v4), (a5, v5)]) (m := [b0, b1, b2, b3]) (SS.put (B := B) (w0 := w0) (l := [(a0, v0), (a1, v1), (a2, v2), (a3, v3), (a4, v4), (a5, v5)]) (m := [b0, b1, b2, b3]) (SS.put (B := B) (w0 := w0) (l := [(a0, v0), (a1, v1), (a2, v2), (a3, v3), (a4, v4), (a5, v5)]) (m := [b0, b1, b2, b3]) (SS.put (B := B) (w0 := w0) (l := [(a0, v0), (a1, v1), (a2, v2), (a3, v3), (a4, v4), (a5, v5)]) (m := [b0, b1, b2, b3]) h p0 u0 hi0 hp0 (by simp [*])) p1 u1 hi1 hp1 (by simp [*])) p2 u2 hi2 hp2 (by simp [*])) p3 u3 hi3 hp3 (by simp [*]))

/-- An integer that is 0 only where r is. -/
def RetSg (e : Ending) (r : Rat) : Prop := ∃ g : Int, e = .returned (.int .i64 g) ∧ (g = 0 ↔ r = 0)
theorem divInt_zero_iff {x y : Int} (hy : y ≠ 0) : Rat.divInt x y = 0 ↔ x = 0 := by
  have h := Rat.divInt_eq_divInt_iff (n₁ := x) (n₂ := 0) hy (show (1 : Int) ≠ 0 by decide)
  rw [over_zero] at h
  rw [h]; simp
theorem sign_bound (x : Int) : -1 ≤ Int.sign x ∧ Int.sign x ≤ 1 ∧ (Int.sign x = 0 ↔ x = 0) := by
  rcases Int.lt_trichotomy x 0 with h | h | h
  · rw [Int.sign_eq_neg_one_of_neg h]; omega
  · subst h; decide
  · rw [Int.sign_eq_one_of_pos h]; omega
theorem sign_mul_zero (x y : Int) : Int.sign x * Int.sign y = 0 ↔ Rat.divInt x y = 0 := by
  by_cases hy : y = 0
  · subst hy; simp
  · rw [divInt_zero_iff hy, Int.mul_eq_zero, (sign_bound x).2.2, (sign_bound y).2.2]
    exact ⟨fun h => h.resolve_right hy, Or.inl⟩
theorem mul_bound {a b : Int} (h1 : -1 ≤ a) (h2 : a ≤ 1) (h3 : -1 ≤ b) (h4 : b ≤ 1) : -1 ≤ a * b ∧ a * b ≤ 1 := by
  have ha : a = -1 ∨ a = 0 ∨ a = 1 := by omega
  rcases ha with rfl | rfl | rfl <;> omega
set_option maxHeartbeats 2000000 in
set_option maxRecDepth 100000 in
theorem c_qSign (s : Bool) (p : Option Addr) (n c : Nat) (x : Int) (t : Bool) (q : Option Addr) (m d : Nat) (y : Int) (w : World) (h1 : Zr w s p n c x) (h2 : Zr w t q m d y) (hn : n ≤ 4398046511100) (hm : m ≤ 4398046511100) :
    Calls Tryz.prog 64 #[.agg #[.bool s, .slice p n c, .bool t, .slice q m d]] w fun e w' => RetSg e (Rat.divInt x y) ∧ Below w.heap.size w w' := by
  have hC1 := fun w1 (hb : Below w.heap.size w w1) => c_Sign s p n c x w1 (h1.keep hb) (by omega)
  have hC2 := fun w1 (hb : Below w.heap.size w w1) => c_Sign t q m d y w1 (h2.keep hb) (by omega)
  have hz := sign_mul_zero x y
  obtain ⟨b1, b2, _⟩ := sign_bound x
  obtain ⟨b3, b4, _⟩ := sign_bound y
  have hmb := mul_bound b1 b2 b3 b4
  generalize Int.sign x = gx at *
  generalize Int.sign y = gy at *
  obtain ⟨g, hg⟩ : ∃ g, gx * gy = g := ⟨_, rfl⟩
  rw [hg] at hz hmb
  obtain ⟨g1, g2⟩ := hmb
  have HC1 := Lib.hid hC1
  have HC2 := Lib.hid hC2
  have HZ := Lib.hid hz
  have hgw : IntKind.i64.wrap (gx * gy) = g := by rw [hg]; exact IntWalk.i64_in _ (by omega)
  clear hC1 hC2 hz h1 h2 b1 b2 b3 b4
  go_enter Tryz.func64, Tryz.ntmps64
  go_upto_region 1 with (fail)
  obtain ⟨w0, hw0⟩ : ∃ w0, (w.alloc (.cells #[.bool s, .slice p n c, .bool t, .slice q m d] 35)) = w0 := ⟨_, rfl⟩
  rw [hw0]
  obtain ⟨X0, hb0⟩ := box1 w #[.bool s, .slice p n c, .bool t, .slice q m d] 35
  rw [hw0] at X0 hb0
  have hs0 : w.heap.size ≤ w0.heap.size := hb0.size
  clear hw0
  have M1 : True := trivial
  have hS1 : w0.cell? ⟨w.heap.size, 0, none⟩ = some (.bool s) ∧ w0.cell? ⟨w.heap.size, 1, none⟩ = some (.slice p n c) ∧ w0.cell? ⟨w.heap.size, 2, none⟩ = some (.bool t) ∧ w0.cell? ⟨w.heap.size, 3, none⟩ = some (.slice q m d) ∧ Below w.heap.size w w0 ∧ w.heap.size ≤ w0.heap.size := ⟨X0.at_ 0 rfl, X0.at_ 1 rfl, X0.at_ 2 rfl, X0.at_ 3 rfl, hb0, hs0⟩
  have hS0 : w0.drew.cell? ⟨w.heap.size, 0, none⟩ = some (.bool s) ∧ w0.drew.cell? ⟨w.heap.size, 1, none⟩ = some (.slice p n c) ∧ w0.drew.cell? ⟨w.heap.size, 2, none⟩ = some (.bool t) ∧ w0.drew.cell? ⟨w.heap.size, 3, none⟩ = some (.slice q m d) ∧ Below w.heap.size w w0.drew ∧ w.heap.size ≤ w0.drew.heap.size := S4_0_next (Below.refl _ w0).drew hS1
  clear X0 hS1
  go_region_held3 (fun w1 => w1.cell? ⟨w.heap.size, 0, none⟩ = some (.bool s) ∧ w1.cell? ⟨w.heap.size, 1, none⟩ = some (.slice p n c) ∧ w1.cell? ⟨w.heap.size, 2, none⟩ = some (.bool t) ∧ w1.cell? ⟨w.heap.size, 3, none⟩ = some (.slice q m d) ∧ Below w.heap.size w w1 ∧ w.heap.size ≤ w1.heap.size)
    (first | with_reducible exact hS0 | (refine S4_0_next (by with_reducible assumption) ?_; assumption) | (refine S4_0_put ?_  <;> first | assumption | exact NotInt.bool _ | exact NotInt.slice _ _ _ | (dsimp only; omega) | (simp; done)))
    (first
      | (go_at_call 72; clear M1; refine (HC1.out _ (S4_0_below (by with_reducible assumption))).mono ?_; rintro e w2 ⟨rfl, hb2⟩)
      | (go_at_call 72; refine (HC2.out _ (S4_0_below (by with_reducible assumption))).mono ?_; rintro e w3 ⟨rfl, hb3⟩; clear hb2))
  go_wp2
  go_ret
  exact ⟨⟨g, by show Ending.returned (Value.int .i64 (IntKind.i64.wrap g)) = _; rw [IntWalk.i64_in _ (by omega)], HZ.out⟩, S4_0_below (by assumption)⟩
end Go.Proofs.YthikonjlgljikaaGreatDoor
