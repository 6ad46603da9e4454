/- Contract of halfplaneref42.Translate. -/
import Derived.Test.YthikonjlgljikaaGreatDoorIm435
namespace Go.Proofs.YthikonjlgljikaaGreatDoor
open Go.RowKit

set_option maxHeartbeats 4000000 in
set_option maxRecDepth 100000 in
theorem c_Translate42 (v : Value) (n : Nat) (x y : Nat → Int) (p q p' q' a b c d : Int) (w : World) (h : QL (fun j => IsR (x j) (y j)) w v n) (h0 : 0 < n) (hn : n ≤ 23) (ha : -1073741824 ≤ a) (ha' : a ≤ 1073741824) (hb : -1073741824 ≤ b) (hb' : b ≤ 1073741824) (hc : -1073741824 ≤ c) (hc' : c ≤ 1073741824) (hd : -1073741824 ≤ d) (hd' : d ≤ 1073741824) (hdet : a * d - b * c ≠ 0)
    (hp : -9223372036854775808 ≤ p) (hp' : p ≤ 9223372036854775807) (hq : -9223372036854775808 ≤ q) (hq' : q ≤ 9223372036854775807) (hr : -9223372036854775808 ≤ p') (hr' : p' ≤ 9223372036854775807) (hs : -9223372036854775808 ≤ q') (hs' : q' ≤ 9223372036854775807) :
    Calls Tryz.prog 51 #[.agg #[v, .int .i64 p, .int .i64 q, .int .i64 p', .int .i64 q'], .agg #[.int .i64 a, .int .i64 b, .int .i64 c, .int .i64 d]] w fun e w' => RetP w w' e n (subst (fun i => Rat.divInt (x i) (y i)) (n - 1) d (-b) (-c) a n) (appV a b c d p q).1 (appV a b c d p' q').1 (trE a b c d p q p' q') ∧ Below w.heap.size w w' := by
  have hv := h
  obtain ⟨g1, o1, l1, rfl, hg1, _⟩ := h.resolve_left (fun h => by omega)
  have HAP1 := Lib.hid (fun w1 => c_Apply18 a b c d p q w1 ha ha' hb hb' hc hc' hd hd' hdet hp hp' hq hq')
  have HAP2 := Lib.hid (fun w1 => c_Apply18 a b c d p' q' w1 ha ha' hb hb' hc hc' hd hd' hdet hr hr' hs hs')
  have HSU := Lib.hid (fun w1 (hbw : Below w.heap.size w w1) => c_Substituted (.slice (some ⟨g1, o1, none⟩) n l1) n x y d (-b) (-c) a w1 (hv.keep (fun j => IsR.solid _ _) hbw) h0 (by omega) hd hd' (by omega) (by omega) (by omega) (by omega) ha ha')
  have hbn : IntKind.i64.wrap (-b) = -b := IntWalk.i64_in _ (by omega)
  have hcn : IntKind.i64.wrap (-c) = -c := IntWalk.i64_in _ (by omega)
  obtain ⟨er, her⟩ : ∃ er, trE a b c d p q p' q' = er := ⟨_, rfl⟩
  have HER := Lib.hid (show er = if (appV a b c d p q).2 ≠ 0 then (appV a b c d p q).2 else (appV a b c d p' q').2 by rw [← her]; rfl)
  rw [her]
  obtain ⟨av1, hav1⟩ : ∃ av, appV a b c d p q = av := ⟨_, rfl⟩
  obtain ⟨av2, hav2⟩ : ∃ av, appV a b c d p' q' = av := ⟨_, rfl⟩
  simp only [hav1, hav2] at HAP1 HAP2 HER ⊢
  obtain ⟨⟨x1, y1⟩, e1⟩ := av1
  obtain ⟨⟨x2, y2⟩, e2⟩ := av2
  obtain ⟨fn, hfn⟩ : ∃ fn, subst (fun i => Rat.divInt (x i) (y i)) (n - 1) d (-b) (-c) a n = fn := ⟨_, rfl⟩
  rw [hfn]
  simp only [hfn] at HSU
  dsimp only at HER ⊢
  have hn1 : ¬ (n : Int) < 1 := by omega
  have hn2 : ¬ (n : Int) > 23 := by omega
  clear h hv ha ha' hb hb' hc hc' hd hd' hdet hp hp' hq hq' hr hr' hs hs' hav1 hav2 her hfn
  go_enter Tryz.func51, Tryz.ntmps51
  go_wp2_with fail
  obtain ⟨w0, hw0⟩ : ∃ w0, (((w.alloc (.cells #[.slice (some ⟨g1, o1, none⟩) n l1, .int .i64 p, .int .i64 q, .int .i64 p', .int .i64 q'] 28)).alloc (.cells #[.int .i64 a, .int .i64 b, .int .i64 c, .int .i64 d] 97)).alloc (.cells #[.slice none 0 0, .int .i64 0, .int .i64 0, .int .i64 0, .int .i64 0] 28)) = w0 := ⟨_, rfl⟩
  rw [hw0]
  obtain ⟨X0, X1, X2, hb0⟩ := box3 w #[.slice (some ⟨g1, o1, none⟩) n l1, .int .i64 p, .int .i64 q, .int .i64 p', .int .i64 q'] 28 #[.int .i64 a, .int .i64 b, .int .i64 c, .int .i64 d] 97 #[.slice none 0 0, .int .i64 0, .int .i64 0, .int .i64 0, .int .i64 0] 28
  rw [hw0] at X0 X1 X2 hb0
  have hs0 : w.heap.size ≤ w0.heap.size := hb0.size
  clear hw0
  have HX0 := Lib.hid X0
  have HX1 := Lib.hid X1
  have HX2 := Lib.hid X2
  have HB0 := Lib.hid hb0
  clear X0 X1 X2 hb0 hs0
  refine (HAP1.out w0).mono ?_
  rintro e w3 ⟨rfl, hb3⟩
  replace HX0 := Lib.hid (HX0.out.below_ hb3 HX0.out.lt)
  replace HX1 := Lib.hid (HX1.out.below_ hb3 HX1.out.lt)
  replace HX2 := Lib.hid (HX2.out.below_ hb3 HX2.out.lt)
  have HB3 := Lib.hid (HB0.out.trans (hb3.mono HB0.out.size))
  have HS3R := Lib.hid (show w.heap.size + 1 + 1 < w3.heap.size from HX2.out.lt)
  clear hb3 HB0 HAP1
  have z0 : ∀ o, (w3.alloc o).cell? ⟨w.heap.size + 1 + 1, 0, none⟩ = some (.slice none 0 0) := fun o => (HX2.out.alloc_ o).at_ 0 rfl
  have f0 : ∀ o, (w3.alloc o).frozen? ⟨w.heap.size + 1 + 1, 0, none⟩ = false := fun o => (HX2.out.alloc_ o).free_ 0
  have z1 : ∀ o, (w3.alloc o).cell? ⟨w.heap.size + 1 + 1, 1, none⟩ = some (.int .i64 0) := fun o => (HX2.out.alloc_ o).at_ 1 rfl
  have f1 : ∀ o, (w3.alloc o).frozen? ⟨w.heap.size + 1 + 1, 1, none⟩ = false := fun o => (HX2.out.alloc_ o).free_ 1
  have z2 : ∀ o, (w3.alloc o).cell? ⟨w.heap.size + 1 + 1, 2, none⟩ = some (.int .i64 0) := fun o => (HX2.out.alloc_ o).at_ 2 rfl
  have f2 : ∀ o, (w3.alloc o).frozen? ⟨w.heap.size + 1 + 1, 2, none⟩ = false := fun o => (HX2.out.alloc_ o).free_ 2
  have z3 : ∀ o, (w3.alloc o).cell? ⟨w.heap.size + 1 + 1, 3, none⟩ = some (.int .i64 0) := fun o => (HX2.out.alloc_ o).at_ 3 rfl
  have f3 : ∀ o, (w3.alloc o).frozen? ⟨w.heap.size + 1 + 1, 3, none⟩ = false := fun o => (HX2.out.alloc_ o).free_ 3
  have z4 : ∀ o, (w3.alloc o).cell? ⟨w.heap.size + 1 + 1, 4, none⟩ = some (.int .i64 0) := fun o => (HX2.out.alloc_ o).at_ 4 rfl
  have f4 : ∀ o, (w3.alloc o).frozen? ⟨w.heap.size + 1 + 1, 4, none⟩ = false := fun o => (HX2.out.alloc_ o).free_ 4
  by_cases h1 : e1 = 0
  · subst h1
    have HE := Lib.hid (show er = e2 by rw [HER.out, if_neg (by simp)])
    have u0 : ∀ o, (w3.alloc o).cell? ⟨w.heap.size, 3, none⟩ = some (.int .i64 p') := fun o => (HX0.out.alloc_ o).at_ 3 rfl
    have u1 : ∀ o, (w3.alloc o).cell? ⟨w.heap.size, 4, none⟩ = some (.int .i64 q') := fun o => (HX0.out.alloc_ o).at_ 4 rfl
    have m0 : ∀ o, (w3.alloc o).cell? ⟨w.heap.size + 1, 0, none⟩ = some (.int .i64 a) := fun o => (HX1.out.alloc_ o).at_ 0 rfl
    have m1 : ∀ o, (w3.alloc o).cell? ⟨w.heap.size + 1, 1, none⟩ = some (.int .i64 b) := fun o => (HX1.out.alloc_ o).at_ 1 rfl
    have m2 : ∀ o, (w3.alloc o).cell? ⟨w.heap.size + 1, 2, none⟩ = some (.int .i64 c) := fun o => (HX1.out.alloc_ o).at_ 2 rfl
    have m3 : ∀ o, (w3.alloc o).cell? ⟨w.heap.size + 1, 3, none⟩ = some (.int .i64 d) := fun o => (HX1.out.alloc_ o).at_ 3 rfl
    clear z0 z1 z2 z3 z4 f0 f1 f2 f3 f4 HER
    go_wp2_with fail
    refine (HAP2.out _).mono ?_
    rintro e w5 ⟨rfl, hb5⟩
    have hal : ∀ o, Below w3.heap.size w3 (w3.alloc o) := fun o => (Below.refl _ _).alloc (Nat.le_refl _) o
    have HB5 := Lib.hid ((HB3.out.trans ((hal _).mono HB3.out.size)).trans (hb5.mono (by have := HB3.out.size; simp; omega)))
    have HC6 := Lib.hid ((Blk.new w3 26 #[.int .i64 x1, .int .i64 y1]).below_ hb5 (by simp))
    replace HX0 := Lib.hid ((HX0.out.alloc_ _).below_ hb5 (HX0.out.alloc_ _).lt)
    replace HX1 := Lib.hid ((HX1.out.alloc_ _).below_ hb5 (HX1.out.alloc_ _).lt)
    replace HX2 := Lib.hid ((HX2.out.alloc_ _).below_ hb5 (HX2.out.alloc_ _).lt)
    have hs3 : w.heap.size ≤ w3.heap.size := HB3.out.size
    clear hb5 hal HB3 HAP2 u0 u1 m0 m1 m2 m3
    by_cases h2 : e2 = 0
    · subst h2
      go_upto_region 9 with (fail)
      obtain ⟨w6, hw6⟩ : ∃ w6, w5.alloc (.cells #[.int .i64 x2, .int .i64 y2] 26) = w6 := ⟨_, rfl⟩
      rw [hw6]
      have hal : Below w5.heap.size w5 w6 := hw6 ▸ (Below.refl _ _).alloc (Nat.le_refl _) _
      have X8 : Blk w6 w5.heap.size 26 #[.int .i64 x2, .int .i64 y2] := hw6 ▸ Blk.new w5 _ _
      have X6 := HC6.out.below_ hal HC6.out.lt
      have X0 := HX0.out.below_ hal HX0.out.lt
      have X1 := HX1.out.below_ hal HX1.out.lt
      have X2 := HX2.out.below_ hal HX2.out.lt
      have hb6 := HB5.out.trans (hal.mono HB5.out.size)
      have hs5 := HC6.out.lt
      have hs3R := HS3R.out
      have hRl : w.heap.size + 1 + 1 < w6.heap.size := X2.lt
      have HX2b := Lib.hid X2
      have HSR := Lib.hid (Stk.of (K := NotU32) X2 (by intro v hv; simp at hv; rcases hv with rfl | rfl <;> exact fun _ h => by cases h))
      clear HX0 HX1 HX2 HC6 HB5 hal hw6
      have hS1 : w6.cell? ⟨w.heap.size, 0, none⟩ = some (.slice (some ⟨g1, o1, none⟩) n l1) ∧ w6.cell? ⟨w.heap.size + 1, 0, none⟩ = some (.int .i64 a) ∧ w6.cell? ⟨w.heap.size + 1, 1, none⟩ = some (.int .i64 b) ∧ w6.cell? ⟨w.heap.size + 1, 2, none⟩ = some (.int .i64 c) ∧ w6.cell? ⟨w.heap.size + 1, 3, none⟩ = some (.int .i64 d) ∧ w6.cell? ⟨w3.heap.size, 0, none⟩ = some (.int .i64 x1) ∧ w6.cell? ⟨w3.heap.size, 1, none⟩ = some (.int .i64 y1) ∧ w6.cell? ⟨w5.heap.size, 0, none⟩ = some (.int .i64 x2) ∧ w6.cell? ⟨w5.heap.size, 1, none⟩ = some (.int .i64 y2) ∧ w6.cell? ⟨w.heap.size + 1 + 1, 0, none⟩ = some (cellOf w6 ⟨w.heap.size + 1 + 1, 0, none⟩) ∧ w6.frozen? ⟨w.heap.size + 1 + 1, 0, none⟩ = false ∧ w6.cell? ⟨w.heap.size + 1 + 1, 1, none⟩ = some (cellOf w6 ⟨w.heap.size + 1 + 1, 1, none⟩) ∧ w6.frozen? ⟨w.heap.size + 1 + 1, 1, none⟩ = false ∧ w6.cell? ⟨w.heap.size + 1 + 1, 2, none⟩ = some (cellOf w6 ⟨w.heap.size + 1 + 1, 2, none⟩) ∧ w6.frozen? ⟨w.heap.size + 1 + 1, 2, none⟩ = false ∧ w6.cell? ⟨w.heap.size + 1 + 1, 3, none⟩ = some (cellOf w6 ⟨w.heap.size + 1 + 1, 3, none⟩) ∧ w6.frozen? ⟨w.heap.size + 1 + 1, 3, none⟩ = false ∧ w6.cell? ⟨w.heap.size + 1 + 1, 4, none⟩ = some (cellOf w6 ⟨w.heap.size + 1 + 1, 4, none⟩) ∧ w6.frozen? ⟨w.heap.size + 1 + 1, 4, none⟩ = false ∧ Below w.heap.size w w6 ∧ w.heap.size ≤ w6.heap.size := ⟨X0.at_ 0 rfl, X1.at_ 0 rfl, X1.at_ 1 rfl, X1.at_ 2 rfl, X1.at_ 3 rfl, X6.at_ 0 rfl, X6.at_ 1 rfl, X8.at_ 0 rfl, X8.at_ 1 rfl, cellOf_some (by rw [X2.at_ 0 rfl]; rfl), X2.free_ 0, cellOf_some (by rw [X2.at_ 1 rfl]; rfl), X2.free_ 1, cellOf_some (by rw [X2.at_ 2 rfl]; rfl), X2.free_ 2, cellOf_some (by rw [X2.at_ 3 rfl]; rfl), X2.free_ 3, cellOf_some (by rw [X2.at_ 4 rfl]; rfl), X2.free_ 4, hb6, Below.size (show Below w.heap.size w w6 from hb6)⟩
      have hS0 : w6.drew.cell? ⟨w.heap.size, 0, none⟩ = some (.slice (some ⟨g1, o1, none⟩) n l1) ∧ w6.drew.cell? ⟨w.heap.size + 1, 0, none⟩ = some (.int .i64 a) ∧ w6.drew.cell? ⟨w.heap.size + 1, 1, none⟩ = some (.int .i64 b) ∧ w6.drew.cell? ⟨w.heap.size + 1, 2, none⟩ = some (.int .i64 c) ∧ w6.drew.cell? ⟨w.heap.size + 1, 3, none⟩ = some (.int .i64 d) ∧ w6.drew.cell? ⟨w3.heap.size, 0, none⟩ = some (.int .i64 x1) ∧ w6.drew.cell? ⟨w3.heap.size, 1, none⟩ = some (.int .i64 y1) ∧ w6.drew.cell? ⟨w5.heap.size, 0, none⟩ = some (.int .i64 x2) ∧ w6.drew.cell? ⟨w5.heap.size, 1, none⟩ = some (.int .i64 y2) ∧ w6.drew.cell? ⟨w.heap.size + 1 + 1, 0, none⟩ = some (cellOf w6.drew ⟨w.heap.size + 1 + 1, 0, none⟩) ∧ w6.drew.frozen? ⟨w.heap.size + 1 + 1, 0, none⟩ = false ∧ w6.drew.cell? ⟨w.heap.size + 1 + 1, 1, none⟩ = some (cellOf w6.drew ⟨w.heap.size + 1 + 1, 1, none⟩) ∧ w6.drew.frozen? ⟨w.heap.size + 1 + 1, 1, none⟩ = false ∧ w6.drew.cell? ⟨w.heap.size + 1 + 1, 2, none⟩ = some (cellOf w6.drew ⟨w.heap.size + 1 + 1, 2, none⟩) ∧ w6.drew.frozen? ⟨w.heap.size + 1 + 1, 2, none⟩ = false ∧ w6.drew.cell? ⟨w.heap.size + 1 + 1, 3, none⟩ = some (cellOf w6.drew ⟨w.heap.size + 1 + 1, 3, none⟩) ∧ w6.drew.frozen? ⟨w.heap.size + 1 + 1, 3, none⟩ = false ∧ w6.drew.cell? ⟨w.heap.size + 1 + 1, 4, none⟩ = some (cellOf w6.drew ⟨w.heap.size + 1 + 1, 4, none⟩) ∧ w6.drew.frozen? ⟨w.heap.size + 1 + 1, 4, none⟩ = false ∧ Below w.heap.size w w6.drew ∧ w.heap.size ≤ w6.drew.heap.size := T9_5_next (Below.refl _ w6).drew hS1
      clear X0 X1 X2 X6 X8 hS1
      have M1 : True := trivial
      go_region_held3 (fun w1 => w1.cell? ⟨w.heap.size, 0, none⟩ = some (.slice (some ⟨g1, o1, none⟩) n l1) ∧ w1.cell? ⟨w.heap.size + 1, 0, none⟩ = some (.int .i64 a) ∧ w1.cell? ⟨w.heap.size + 1, 1, none⟩ = some (.int .i64 b) ∧ w1.cell? ⟨w.heap.size + 1, 2, none⟩ = some (.int .i64 c) ∧ w1.cell? ⟨w.heap.size + 1, 3, none⟩ = some (.int .i64 d) ∧ w1.cell? ⟨w3.heap.size, 0, none⟩ = some (.int .i64 x1) ∧ w1.cell? ⟨w3.heap.size, 1, none⟩ = some (.int .i64 y1) ∧ w1.cell? ⟨w5.heap.size, 0, none⟩ = some (.int .i64 x2) ∧ w1.cell? ⟨w5.heap.size, 1, none⟩ = some (.int .i64 y2) ∧ w1.cell? ⟨w.heap.size + 1 + 1, 0, none⟩ = some (cellOf w1 ⟨w.heap.size + 1 + 1, 0, none⟩) ∧ w1.frozen? ⟨w.heap.size + 1 + 1, 0, none⟩ = false ∧ w1.cell? ⟨w.heap.size + 1 + 1, 1, none⟩ = some (cellOf w1 ⟨w.heap.size + 1 + 1, 1, none⟩) ∧ w1.frozen? ⟨w.heap.size + 1 + 1, 1, none⟩ = false ∧ w1.cell? ⟨w.heap.size + 1 + 1, 2, none⟩ = some (cellOf w1 ⟨w.heap.size + 1 + 1, 2, none⟩) ∧ w1.frozen? ⟨w.heap.size + 1 + 1, 2, none⟩ = false ∧ w1.cell? ⟨w.heap.size + 1 + 1, 3, none⟩ = some (cellOf w1 ⟨w.heap.size + 1 + 1, 3, none⟩) ∧ w1.frozen? ⟨w.heap.size + 1 + 1, 3, none⟩ = false ∧ w1.cell? ⟨w.heap.size + 1 + 1, 4, none⟩ = some (cellOf w1 ⟨w.heap.size + 1 + 1, 4, none⟩) ∧ w1.frozen? ⟨w.heap.size + 1 + 1, 4, none⟩ = false ∧ Below w.heap.size w w1 ∧ w.heap.size ≤ w1.heap.size)
        (first | with_reducible exact hS0 | with_reducible assumption | (refine T9_5_next (by with_reducible assumption) ?_; assumption) | (refine T9_5_put ?_ ?_ ?_ ?_ ?_ ?_ ?_ ?_ ?_ ?_ ?_ ?_ ?_ ?_ ?_ ?_ ?_ ?_ ?_ ?_ ?_ ?_ ?_ ?_ ?_ ?_ ?_ ?_ ?_ ?_ ?_ ?_ ?_ ?_ ?_ ?_ ?_ ?_ ?_ ?_ ?_ ?_ ?_ ?_ ?_ ?_ ?_ ?_ ?_ ?_ ?_ <;> first | assumption | (dsimp only; omega) | (simp; done)))
        (first
          | (go_at_call 96; refine (HSU.out _ (T9_5_below (by with_reducible assumption))).mono ?_; rintro e w7 ⟨⟨g7, cap7, rfl, hg7, hr7⟩, hb7⟩; have hbe : Below w6.heap.size w6 w7 := (by first | exact (Below.refl _ w6).drew.trans hb7 | exact hb7); have HG7 := Lib.hid (show w.heap.size ≤ g7 from Nat.le_trans (by simp only [World.drew]; omega) hg7); have HQR := Lib.hid (QRow.i32 (fun _ => IsQ.solid _) hr7 (I32.path (HSR.out.next hbe) (some ⟨g7, 0, none⟩) n cap7 x1 y1 x2 y2) (but_put5 _ _ _ _ _ _ _) (Nat.ne_of_gt (Nat.lt_of_lt_of_le hRl (Nat.le_trans (by simp only [World.drew]; omega) hg7)))); have r0 : w7.cell? ⟨w.heap.size + 1 + 1, 0, none⟩ = some (.slice none 0 0) := (HX2b.out.below_ hbe HX2b.out.lt).at_ 0 rfl; have r1 : w7.cell? ⟨w.heap.size + 1 + 1, 1, none⟩ = some (.int .i64 0) := (HX2b.out.below_ hbe HX2b.out.lt).at_ 1 rfl; have r2 : w7.cell? ⟨w.heap.size + 1 + 1, 2, none⟩ = some (.int .i64 0) := (HX2b.out.below_ hbe HX2b.out.lt).at_ 2 rfl; have r3 : w7.cell? ⟨w.heap.size + 1 + 1, 3, none⟩ = some (.int .i64 0) := (HX2b.out.below_ hbe HX2b.out.lt).at_ 3 rfl; have r4 : w7.cell? ⟨w.heap.size + 1 + 1, 4, none⟩ = some (.int .i64 0) := (HX2b.out.below_ hbe HX2b.out.lt).at_ 4 rfl; clear hg7 hr7 hbe))
      all_goals go_wp2
      all_goals refine bodyPost_ret (by simp [results, Tryz.results51, go_sem, r0, r1, r2, r3, r4]; try rfl) rfl ?_
      all_goals exact ⟨.inr ⟨HE.out, g7, cap7, rfl, HG7.out, HQR.out⟩, T9_5_below (by assumption)⟩
    · have HE2 := Lib.hid h2
      have z0 : ∀ o, (w5.alloc o).cell? ⟨w.heap.size + 1 + 1, 0, none⟩ = some (.slice none 0 0) := fun o => (HX2.out.alloc_ o).at_ 0 rfl
      have f0 : ∀ o, (w5.alloc o).frozen? ⟨w.heap.size + 1 + 1, 0, none⟩ = false := fun o => (HX2.out.alloc_ o).free_ 0
      have z1 : ∀ o, (w5.alloc o).cell? ⟨w.heap.size + 1 + 1, 1, none⟩ = some (.int .i64 0) := fun o => (HX2.out.alloc_ o).at_ 1 rfl
      have f1 : ∀ o, (w5.alloc o).frozen? ⟨w.heap.size + 1 + 1, 1, none⟩ = false := fun o => (HX2.out.alloc_ o).free_ 1
      have z2 : ∀ o, (w5.alloc o).cell? ⟨w.heap.size + 1 + 1, 2, none⟩ = some (.int .i64 0) := fun o => (HX2.out.alloc_ o).at_ 2 rfl
      have f2 : ∀ o, (w5.alloc o).frozen? ⟨w.heap.size + 1 + 1, 2, none⟩ = false := fun o => (HX2.out.alloc_ o).free_ 2
      have z3 : ∀ o, (w5.alloc o).cell? ⟨w.heap.size + 1 + 1, 3, none⟩ = some (.int .i64 0) := fun o => (HX2.out.alloc_ o).at_ 3 rfl
      have f3 : ∀ o, (w5.alloc o).frozen? ⟨w.heap.size + 1 + 1, 3, none⟩ = false := fun o => (HX2.out.alloc_ o).free_ 3
      have z4 : ∀ o, (w5.alloc o).cell? ⟨w.heap.size + 1 + 1, 4, none⟩ = some (.int .i64 0) := fun o => (HX2.out.alloc_ o).at_ 4 rfl
      have f4 : ∀ o, (w5.alloc o).frozen? ⟨w.heap.size + 1 + 1, 4, none⟩ = false := fun o => (HX2.out.alloc_ o).free_ 4
      go_wp2
      refine bodyPost_ret (by simp [results, Tryz.results51, go_sem, z0, z1, z2, z3, z4]; try rfl) rfl ?_
      exact ⟨.inl ⟨by rw [HE.out]; assumption, by rw [HE.out]⟩, (((((HB5.out.alloc HB5.out.size _).setCell (p := ⟨w.heap.size + 1 + 1, 0, none⟩) (by dsimp only; omega) _).setCell (p := ⟨w.heap.size + 1 + 1, 1, none⟩) (by dsimp only; omega) _).setCell (p := ⟨w.heap.size + 1 + 1, 2, none⟩) (by dsimp only; omega) _).setCell (p := ⟨w.heap.size + 1 + 1, 3, none⟩) (by dsimp only; omega) _).setCell (p := ⟨w.heap.size + 1 + 1, 4, none⟩) (by dsimp only; omega) _⟩
  · have HE := Lib.hid (show er = e1 by rw [HER.out, if_pos h1])
    clear HER
    go_wp2
    refine bodyPost_ret (by simp [results, Tryz.results51, go_sem, z0, z1, z2, z3, z4]; try rfl) rfl ?_
    exact ⟨.inl ⟨by rw [HE.out]; assumption, by rw [HE.out]⟩, (((((HB3.out.alloc HB3.out.size _).setCell (p := ⟨w.heap.size + 1 + 1, 0, none⟩) (by dsimp only; omega) _).setCell (p := ⟨w.heap.size + 1 + 1, 1, none⟩) (by dsimp only; omega) _).setCell (p := ⟨w.heap.size + 1 + 1, 2, none⟩) (by dsimp only; omega) _).setCell (p := ⟨w.heap.size + 1 + 1, 3, none⟩) (by dsimp only; omega) _).setCell (p := ⟨w.heap.size + 1 + 1, 4, none⟩) (by dsimp only; omega) _⟩
end Go.Proofs.YthikonjlgljikaaGreatDoor
