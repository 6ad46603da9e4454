/- The document's example: the space of level 1, weight 4. A Spec that is refused: manin.Relations and symbols.New. Contracts of manin.Count, halfplanebase.Frac and the law's fractions. -/
import Derived.Test.YthikonjlgljikaaGreatDoorLs34
import Derived.Test.YthikonjlgljikaaGreatDoorLs37
import Derived.Test.YthikonjlgljikaaGreatDoorLs44
import Derived.Test.YthikonjlgljikaaGreatDoorLs25
import Derived.Test.YthikonjlgljikaaGreatDoorLs45
namespace Go.Proofs.YthikonjlgljikaaGreatDoor
open Go.RowKit Eli

theorem kro3 (D : Int) (l : Nat) : Pl.kroP D l = 0 ∨ Pl.kroP D l = 1 ∨ Pl.kroP D l = -1 := by
  have h : -1 ≤ Pl.kroP D l ∧ Pl.kroP D l ≤ 1 := by
    unfold Pl.kroP
    dsimp only
    split
    · omega
    · have h := jac_pm (l / 2 ^ Lib.ctz 64 l + 1) (D % (l / 2 ^ Lib.ctz 64 l : Nat)).toNat (l / 2 ^ Lib.ctz 64 l) 1 (.inl rfl)
      split <;> omega
  omega
/-- The relations of a space, as one list. -/
def relF (n wt : Nat) (D : Int) (p : Nat) : Int := relOf n wt D (p / ((wt + 1) * (pts n (n * n)).length)) (p % ((wt + 1) * (pts n (n * n)).length))
/-- The number of symbols. -/
def cntF (n wt : Nat) : Nat := (wt + 1) * (pts n (n * n)).length
/-- What elimination leaves of the relations. -/
def elF (n wt : Nat) (D : Int) : Nat → List (Nat × Rat) := elim (cntF n wt) (rowF (cntF n wt) (relF n wt D)) (2 * cntF n wt)
theorem relF_small {n wt : Nat} {D : Int} (hw : wt ≤ 22) (p : Nat) : (relF n wt D p).natAbs ≤ 16777216 := relE_small (plAll_ok (kro3 D) n) hw _ _
theorem elF_good {n wt : Nat} {D : Int} (hw : wt ≤ 22) : Eli.Good (cntF n wt) 16777216 (elF n wt D) := Eli.Good.elim (by omega) (rowF_small (relF_small hw)) (rowF_zero _ _) _
theorem pts_zero {n : Nat} (hn : 0 < n) : 0 < (pts n (n * n)).length := by
  have key : ∀ a, a < n * n → pok n a = true → plst n a = true → 0 < (pts n (n * n)).length := by
    intro a h1 h2 h3
    refine List.length_pos_of_mem (a := a) ?_
    rw [pts_filter hn _ (Nat.le_refl _), List.mem_filter]
    exact ⟨List.mem_range.2 h1, by rw [h2, h3]; rfl⟩
  rcases Nat.eq_or_lt_of_le (show 1 ≤ n from hn) with rfl | h
  · exact key 0 (by omega) (by decide) (by decide)
  · have h1 : 1 < n * n := Nat.lt_of_lt_of_le h (Nat.le_mul_of_pos_left n hn)
    have hd : 1 / n = 0 := Nat.div_eq_of_lt h
    have hm : 1 % n = 1 := Nat.mod_eq_of_lt h
    refine key 1 h1 ?_ ?_
    · unfold pok; rw [hd, hm]; simp
    · rw [plst_iff]
      intro s h2 h3 h4
      have h5 : s ≠ n := fun e => by
        subst e
        unfold pun at h4
        simp only [beq_iff_eq, Nat.gcd_self] at h4
        omega
      unfold pmul
      rw [hd, hm, Nat.mul_zero, Nat.zero_mod, Nat.zero_mul, Nat.zero_add, Nat.mul_one, Nat.mod_eq_of_lt (by omega)]
      exact h2
theorem cntF_pos {n wt : Nat} (hn : 0 < n) : 0 < cntF n wt := Nat.mul_pos (by omega) (pts_zero hn)
theorem c_New (n wt : Nat) (D : Int) (w : World) (hT : Tab w) (hck : Pl.check n ((wt : Int) + 2) D = 0) (hC : cntF n wt ≤ 72) :
    Calls Tryz.prog 19 #[.agg #[.int .i64 n, .int .i64 ((wt : Int) + 2), .int .i64 D]] w fun e w' => (∃ M, e = .returned (.tuple #[.pointer (some ⟨M, 0, none⟩), .int .i64 0]) ∧ w.heap.size ≤ M ∧ ModAt w' M w'.heap.size n ((wt : Int) + 2) D (frs (elF n wt D) (cntF n wt)) (cntF n wt) (crd (elF n wt D) (cntF n wt) (cntF n wt))) ∧ Below w.heap.size w w' := by
  obtain ⟨h1, h2, h3, h4, h5, h6⟩ := check_zero hck
  exact c_New_ok n ((wt : Int) + 2) D (2 * cntF n wt) (cntF n wt) (relF n wt D) w (fun w1 hb => c_Relations_ok n wt D (pts n (n * n)) (cntF n wt) w1 (hT.below hb) (by omega) (by omega) (by omega) (by omega) (by omega) hck (kro3 D) rfl rfl (cntF_pos (by omega)) hC) (by omega) (cntF_pos (by omega)) hC (relF_small (by omega))
theorem coord_size {n wt : Nat} {D : Int} (hw : wt ≤ 22) (hC : cntF n wt ≤ 72) {j f : Nat} (hj : j < cntF n wt) (hf : f ∈ frs (elF n wt D) (cntF n wt)) : hq (crd (elF n wt D) (cntF n wt) (cntF n wt) j f) ≤ 80 := by
  obtain ⟨h1, h2⟩ := frs_mem.1 hf
  exact Nat.le_trans (crd_size (by omega) (elF_good hw) (by omega) (Nat.le_refl _) hj h1 h2) (top_72 hC (Nat.le_refl _))
theorem aw_frs : frs (elF 1 2 1) (cntF 1 2) = [2] := by decide +kernel
theorem aw_crd : crd (elF 1 2 1) (cntF 1 2) (cntF 1 2) 0 2 = -1 := by decide +kernel
theorem aw_cnt : cntF 1 2 = 3 := by decide +kernel
theorem aw_check : Pl.check ((1 : Nat) : Int) (((2 : Nat) : Int) + 2) 1 = 0 := by decide +kernel
set_option maxHeartbeats 4000000 in
set_option maxRecDepth 100000 in
theorem c_awake (w : World) (hT : Tab w) :
    Calls Tryz.prog 17 #[] w fun e w' => e = .returned (.bool true) ∧ Below w.heap.size w w' := by
  have HNW := Lib.hid (show ∀ W, Below w.heap.size w W → Calls Tryz.prog 19 #[.agg #[.int .i64 1, .int .i64 4, .int .i64 1]] W fun e w' => (∃ M, e = .returned (.tuple #[.pointer (some ⟨M, 0, none⟩), .int .i64 0]) ∧ W.heap.size ≤ M ∧ ModAt w' M w'.heap.size 1 4 1 [2] 3 (crd (elF 1 2 1) 3 3)) ∧ Below W.heap.size W w' from fun W hb => by
    have h := c_New 1 2 1 W (hT.below hb) aw_check (by rw [aw_cnt]; omega)
    rw [aw_frs, aw_cnt] at h
    exact h)
  obtain ⟨X, hX⟩ : ∃ X, crd (elF 1 2 1) 3 3 = X := ⟨_, rfl⟩
  have HX := Lib.hid (show X 0 2 = -1 by have h := aw_crd; rw [aw_cnt, hX] at h; exact h)
  rw [hX] at HNW
  clear hT hX
  go_enter Tryz.func17, Tryz.ntmps17
  go_wp2_with fail
  refine (HNW.out w (Below.refl _ w)).mono ?_
  rintro e w1 ⟨⟨M, rfl, hM, hmod⟩, hb1⟩
  have HM1 := Lib.hid hmod
  have HB1 := Lib.hid hb1
  clear hM hmod hb1 HNW
  go_wp2_with fail
  refine (c_Reduce M w1.heap.size 1 4 1 [2] 3 X 0 w1 HM1.out (by omega) (by decide) (fun f hf => by
    simp only [List.mem_singleton] at hf
    subst hf
    rw [HX.out]; decide)).mono ?_
  rintro e w2 ⟨⟨g, rfl, hg, hrow⟩, hb2⟩
  have HR2 := Lib.hid (show QRow (fun _ => IsQ (-1)) w2 g 1 1 from QRow.congr hrow (fun j hj => by
    have hj' : j < 1 := hj
    obtain rfl : j = 0 := by omega
    show IsQ (X 0 2) = _
    rw [HX.out]))
  have HM2 := Lib.hid (HM1.out.keep (Nat.le_refl _) hb2)
  have HB2 := Lib.hid (HB1.out.trans (hb2.mono HB1.out.size))
  have HS2 := Lib.hid hb2.size
  clear hg hrow hb2 HM1 HB1
  go_wp2_with fail
  refine (c_Dim M w1.heap.size 1 4 1 [2] 3 X w2 HM2.out).mono ?_
  rintro e w3 ⟨rfl, hw⟩
  rw [hw]
  clear hw
  go_wp2_with fail
  refine (c_Free M w1.heap.size 1 4 1 [2] 3 X w2 HM2.out (by decide)).mono ?_
  rintro e w3 ⟨⟨v, rfl, hown⟩, hb3⟩
  obtain ⟨p, c, rfl⟩ := own_slice hown.1
  have HO3 := Lib.hid hown
  have HR3 := Lib.hid (QRow.keep (fun _ => IsQ.solid _) HR2.out hb3)
  have HB3 := Lib.hid (HB2.out.trans (hb3.mono HB2.out.size))
  clear hown hb3 HR2 HB2 HM2 HS2
  go_wp2_with fail
  obtain ⟨w4, hw4⟩ : ∃ w4, w3.alloc (.cells #[.int .i64 2] 3) = w4 := ⟨_, rfl⟩
  obtain ⟨X4, hb4⟩ := box1 w3 #[.int .i64 2] 3
  rw [hw4] at X4 hb4 ⊢
  have HN1 := Lib.hid ((HO3.out.keep hb4).nl)
  have HN2 := Lib.hid (show NL [2] w4 w4.heap.size (.slice (some ⟨w3.heap.size, 0, none⟩) 1 1) from .inr ⟨w3.heap.size, 1, rfl, Nat.le_refl _, by omega, X4.lt, fun j x hj => by
    rcases j with _ | j
    · injection hj with hj; subst hj; exact X4.at_ 0 rfl
    · cases hj⟩)
  have HR4 := Lib.hid (QRow.keep (fun _ => IsQ.solid _) HR3.out hb4)
  have HB4 := Lib.hid (HB3.out.trans (hb4.mono HB3.out.size))
  clear hw4 X4 hb4 HO3 HR3 HB3
  refine (c_Ints_eq _ _ [2] w4 HN1.out HN2.out).mono ?_
  rintro e w5 ⟨rfl, m, rfl⟩
  have hb5 : Below w4.heap.size w4 (w4.drewN m) := below_drewN' (Below.refl _ _) m
  generalize w4.drewN m = w5 at hb5 ⊢
  have HR5 := Lib.hid (QRow.keep (fun _ => IsQ.solid _) HR4.out hb5)
  have HB5 := Lib.hid (HB4.out.trans (hb5.mono HB4.out.size))
  clear hb5 HN1 HN2 HR4 HB4
  go_wp2_with fail
  obtain ⟨w6, hw6⟩ : ∃ w6, w5.alloc (.cells #[.int .i64 (-1)] 3) = w6 := ⟨_, rfl⟩
  obtain ⟨X6, hb6⟩ := box1 w5 #[.int .i64 (-1)] 3
  rw [hw6] at X6 hb6 ⊢
  have HR6 := Lib.hid (QRow.keep (fun _ => IsQ.solid _) HR5.out hb6)
  have HB6 := Lib.hid (HB5.out.trans (hb6.mono HB5.out.size))
  refine (c_Qs w5.heap.size 1 1 (fun _ => -1) w6 X6.lt (fun j hj => by
    obtain rfl : j = 0 := by omega
    exact X6.at_ 0 rfl) (fun j _ => by omega) (by omega)).mono ?_
  rintro e w7 ⟨⟨v7, rfl, hq7⟩, hb7⟩
  have HR7 := Lib.hid ((QRow.keep (fun _ => IsQ.solid _) HR6.out hb7).ql 1)
  have HQ7 := Lib.hid (show QL (fun _ => IsQ (-1)) w7 v7 1 from hq7.ql)
  have HB7 := Lib.hid (HB6.out.trans (hb7.mono HB6.out.size))
  clear hw6 X6 hb6 hq7 hb7 HR5 HB5 HR6 HB6
  go_wp2_with fail
  refine (c_SameRats_eq _ _ 1 (fun _ => -1) w7 HR7.out HQ7.out (by omega) (fun j _ => by decide)).mono ?_
  rintro e w8 ⟨rfl, hb8⟩
  have HB8 := Lib.hid (HB7.out.trans (hb8.mono HB7.out.size))
  clear hb8 HR7 HQ7 HB7
  go_wp2
  go_ret
  exact ⟨rfl, HB8.out⟩
end Go.Proofs.YthikonjlgljikaaGreatDoor
namespace Go.Proofs.YthikonjlgljikaaGreatDoor
open Go.RowKit Eli

set_option maxHeartbeats 4000000 in
set_option maxRecDepth 100000 in
theorem c_Relations_bad (N k D : Int) (w : World) (hck : Pl.check N k D ≠ 0) :
    Calls Tryz.prog 33 #[.agg #[.int .i64 N, .int .i64 k, .int .i64 D]] w fun e w' => e = .returned (.tuple #[.agg #[.int .i64 0, .int .i64 0, .slice none 0 0], .int .i64 (Pl.check N k D)]) ∧ Below w.heap.size w w' := by
  have HEN := Lib.hid (fun W => c_enter_bad N k D W hck)
  obtain ⟨er, her⟩ : ∃ er, Pl.check N k D = er := ⟨_, rfl⟩
  rw [her] at hck HEN ⊢
  have hne : (er != 0) = true := by simpa using hck
  clear her hck
  go_enter Tryz.func33, Tryz.ntmps33
  go_wp2_with fail
  obtain ⟨w0, hw0⟩ : ∃ w0, (w.alloc (.cells #[.int .i64 N, .int .i64 k, .int .i64 D] 23)).alloc (.cells #[.int .i64 0, .int .i64 0, .slice none 0 0] 76) = w0 := ⟨_, rfl⟩
  rw [hw0]
  obtain ⟨X0, X1, hb0⟩ := box2 w #[.int .i64 N, .int .i64 k, .int .i64 D] 23 #[.int .i64 0, .int .i64 0, .slice none 0 0] 76
  rw [hw0] at X0 X1 hb0
  refine (HEN.out w0).mono ?_
  rintro e w1 ⟨rfl, hb1⟩
  have HX1 := Lib.hid (X1.below_ hb1 X1.lt)
  have HB1 := Lib.hid (hb0.trans (hb1.mono hb0.size))
  obtain ⟨gr, hgr⟩ : ∃ x, w.heap.size + 1 = x := ⟨_, rfl⟩
  have HGR := Lib.hid hgr
  rw [hgr] at HX1 ⊢
  have r0 := HX1.out.at_ 0 rfl
  have r1 := HX1.out.at_ 1 rfl
  have r2 := HX1.out.at_ 2 rfl
  have f0 := HX1.out.free_ 0
  have f1 := HX1.out.free_ 1
  have f2 := HX1.out.free_ 2
  have HE3 := Lib.hid (put3_at (w := w1) (R := gr) (v0 := .int .i64 0) (v1 := .int .i64 0) (v2 := .slice none 0 0) (by rw [r0]; rfl) (by rw [r1]; rfl) (by rw [r2]; rfl))
  clear hw0 X0 X1 hb0 hb1 hgr HEN
  go_wp2
  have e0 := HE3.out.1
  have e1 := HE3.out.2.1
  have e2 := HE3.out.2.2
  try simp only [Exit.inBlock, Exit.then]
  refine bodyPost_ret (by simp [results, Tryz.results33, go_sem, e0, e1, e2]; try rfl) rfl ?_
  exact ⟨rfl, ((HB1.out.setCell (p := ⟨gr, 0, none⟩) (by have := HGR.out; show w.heap.size ≤ gr; omega) _).setCell (p := ⟨gr, 1, none⟩) (by have := HGR.out; show w.heap.size ≤ gr; omega) _).setCell (p := ⟨gr, 2, none⟩) (by have := HGR.out; show w.heap.size ≤ gr; omega) _⟩
theorem c_New_check (N k D : Int) (w : World) (hck : Pl.check N k D ≠ 0) :
    Calls Tryz.prog 19 #[.agg #[.int .i64 N, .int .i64 k, .int .i64 D]] w fun e w' => e = .returned (.tuple #[.pointer none, .int .i64 (Pl.check N k D)]) ∧ Below w.heap.size w w' :=
  c_New_bad N k D (Pl.check N k D) w (fun w1 _ => (c_Relations_bad N k D w1 hck).mono (fun _ _ h => ⟨⟨0, 0, h.1⟩, h.2⟩)) hck
end Go.Proofs.YthikonjlgljikaaGreatDoor
namespace Go.Proofs.YthikonjlgljikaaGreatDoor
set_option linter.unusedSimpArgs false
open Go.RowKit Eli

theorem S0_4_next {B : Nat} {w0 w w' : World} {b0 b1 b2 b3 : Addr} (hb : Below w.heap.size w w') (h : w.cell? b0 = some (cellOf w b0) ∧ w.frozen? b0 = false ∧ Sts w b0.block ∧ w.cell? b1 = some (cellOf w b1) ∧ w.frozen? b1 = false ∧ Sts w b1.block ∧ w.cell? b2 = some (cellOf w b2) ∧ w.frozen? b2 = false ∧ Sts w b2.block ∧ w.cell? b3 = some (cellOf w b3) ∧ w.frozen? b3 = false ∧ Sts w b3.block ∧ Below B w0 w ∧ B ≤ w.heap.size) : w'.cell? b0 = some (cellOf w' b0) ∧ w'.frozen? b0 = false ∧ Sts w' b0.block ∧ w'.cell? b1 = some (cellOf w' b1) ∧ w'.frozen? b1 = false ∧ Sts w' b1.block ∧ w'.cell? b2 = some (cellOf w' b2) ∧ w'.frozen? b2 = false ∧ Sts w' b2.block ∧ w'.cell? b3 = some (cellOf w' b3) ∧ w'.frozen? b3 = false ∧ Sts w' b3.block ∧ Below B w0 w' ∧ B ≤ w'.heap.size := SS.next (B := B) (w0 := w0) (l := ([] : List (Addr × Value))) (m := [b0, b1, b2, b3]) hb h
theorem S0_4_put {B : Nat} {w0 w : World} {b0 b1 b2 b3 : Addr} (h : w.cell? b0 = some (cellOf w b0) ∧ w.frozen? b0 = false ∧ Sts w b0.block ∧ w.cell? b1 = some (cellOf w b1) ∧ w.frozen? b1 = false ∧ Sts w b1.block ∧ w.cell? b2 = some (cellOf w b2) ∧ w.frozen? b2 = false ∧ Sts w b2.block ∧ w.cell? b3 = some (cellOf w b3) ∧ w.frozen? b3 = false ∧ Sts w b3.block ∧ Below B w0 w ∧ B ≤ w.heap.size) {p0 p1 p2 p3 : Addr} {u0 u1 u2 u3 : Value} (hi0 : NotInt u0) (hp0 : B ≤ p0.block) (hi1 : NotInt u1) (hp1 : B ≤ p1.block) (hi2 : NotInt u2) (hp2 : B ≤ p2.block) (hi3 : NotInt u3) (hp3 : B ≤ p3.block) : ((((w.setCell p0 u0).setCell p1 u1).setCell p2 u2).setCell p3 u3).cell? b0 = some (cellOf ((((w.setCell p0 u0).setCell p1 u1).setCell p2 u2).setCell p3 u3) b0) ∧ ((((w.setCell p0 u0).setCell p1 u1).setCell p2 u2).setCell p3 u3).frozen? b0 = false ∧ Sts ((((w.setCell p0 u0).setCell p1 u1).setCell p2 u2).setCell p3 u3) b0.block ∧ ((((w.setCell p0 u0).setCell p1 u1).setCell p2 u2).setCell p3 u3).cell? b1 = some (cellOf ((((w.setCell p0 u0).setCell p1 u1).setCell p2 u2).setCell p3 u3) b1) ∧ ((((w.setCell p0 u0).setCell p1 u1).setCell p2 u2).setCell p3 u3).frozen? b1 = false ∧ Sts ((((w.setCell p0 u0).setCell p1 u1).setCell p2 u2).setCell p3 u3) b1.block ∧ ((((w.setCell p0 u0).setCell p1 u1).setCell p2 u2).setCell p3 u3).cell? b2 = some (cellOf ((((w.setCell p0 u0).setCell p1 u1).setCell p2 u2).setCell p3 u3) b2) ∧ ((((w.setCell p0 u0).setCell p1 u1).setCell p2 u2).setCell p3 u3).frozen? b2 = false ∧ Sts ((((w.setCell p0 u0).setCell p1 u1).setCell p2 u2).setCell p3 u3) b2.block ∧ ((((w.setCell p0 u0).setCell p1 u1).setCell p2 u2).setCell p3 u3).cell? b3 = some (cellOf ((((w.setCell p0 u0).setCell p1 u1).setCell p2 u2).setCell p3 u3) b3) ∧ ((((w.setCell p0 u0).setCell p1 u1).setCell p2 u2).setCell p3 u3).frozen? b3 = false ∧ Sts ((((w.setCell p0 u0).setCell p1 u1).setCell p2 u2).setCell p3 u3) b3.block ∧ Below B w0 ((((w.setCell p0 u0).setCell p1 u1).setCell p2 u2).setCell p3 u3) ∧ B ≤ ((((w.setCell p0 u0).setCell p1 u1).setCell p2 u2).setCell p3 u3).heap.size := (SS.put (B := B) (w0 := w0) (l := ([] : List (Addr × Value))) (m := [b0, b1, b2, b3]) (SS.put (B := B) (w0 := w0) (l := ([] : List (Addr × Value))) (m := [b0, b1, b2, b3]) (SS.put (B := B) (w0 := w0) (l := ([] : List (Addr × Value))) (m := [b0, b1, b2, b3]) (SS.put (B := B) (w0 := w0) (l := ([] : List (Addr × Value))) (m := [b0, b1, b2, b3]) h p0 u0 hi0 hp0 (by simp [*])) p1 u1 hi1 hp1 (by simp [*])) p2 u2 hi2 hp2 (by simp [*])) p3 u3 hi3 hp3 (by simp [*]))
set_option maxHeartbeats 4000000 in
set_option maxRecDepth 100000 in
theorem c_MCount (n wt : Nat) (D : Int) (w : World) (hT : Tab w) (hck : Pl.check n ((wt : Int) + 2) D = 0) :
    Calls Tryz.prog 36 #[.agg #[.int .i64 n, .int .i64 ((wt : Int) + 2), .int .i64 D]] w fun e w' => e = .returned (.tuple #[.int .i64 ((cntF n wt : Nat) : Int), .int .i64 0]) ∧ Below w.heap.size w w' := by
  obtain ⟨h1, h2, h3, h4, h5, h6⟩ := check_zero hck
  have hpl : (pts n (n * n)).length ≤ 14400 := Nat.le_trans (pts_length n (n * n)) (by have : n * n ≤ 120 * 120 := Nat.mul_le_mul (by omega) (by omega); omega)
  have HEN := Lib.hid (fun W (hb : Below w.heap.size w W) => c_enter_ok n wt D W (hT.below hb) (by omega) (by omega) (by omega) (by omega) (by omega) hck)
  have HCO := Lib.hid (fun T B W h => c_countW T B n wt (pts n (n * n)) (plAll n D (pts n (n * n)) n) W h (by omega) hpl)
  obtain ⟨C, hC⟩ : ∃ C, cntF n wt = C := ⟨_, rfl⟩
  have hC2 : (wt + 1) * (pts n (n * n)).length = C := hC
  rw [hC2] at HCO
  rw [hC]
  clear hT hck h1 h2 h3 h4 h5 h6 hC hC2 hpl
  go_enter Tryz.func36, Tryz.ntmps36
  go_wp2_with fail
  have hb0 : Below w.heap.size w (w.alloc (.cells #[.int .i64 n, .int .i64 ((wt : Int) + 2), .int .i64 D] 23)) := (Below.refl _ _).alloc (Nat.le_refl _) _
  refine (HEN.out _ hb0).mono ?_
  rintro e w1 ⟨⟨T, rfl, hwa⟩, hb1⟩
  have HB1 := Lib.hid (hb0.trans (hb1.mono hb0.size))
  have HWA := Lib.hid hwa
  clear hb0 hb1 hwa
  go_wp2_with fail
  refine (HCO.out T w1.heap.size w1 HWA.out).mono ?_
  rintro e w2 ⟨rfl, m, rfl⟩
  have HB2 := Lib.hid (below_drewN' HB1.out m)
  go_wp2
  (first | go_ret2 | go_ret)
  exact ⟨rfl, HB2.out⟩
theorem frac_val {n : Int} {d g : Nat} (hd : 0 < d) (hg : Nat.gcd n.natAbs d = g) : (Rat.divInt n d).num = Int.tdiv n g ∧ ((Rat.divInt n d).den : Int) = Int.tdiv (d : Int) g := by
  have h0 : (0 : Int) < (d : Int) := by omega
  have hgd : Int.gcd n (d : Int) = g := hg
  have hgp : 0 < g := by rw [← hg]; exact Nat.gcd_pos_of_pos_right _ hd
  have h1 := over_num (n := n) h0
  have h2 := over_den (n := n) h0
  rw [hgd] at h1 h2
  have hdv : ((g : Nat) : Int) ∣ n := by rw [← hgd]; exact Int.gcd_dvd_left ..
  rw [h1, h2]
  refine ⟨?_, ?_⟩
  · rw [Int.tdiv_eq_ediv]
    by_cases hn : 0 ≤ n
    · rw [if_pos (.inl hn), Int.add_zero]
    · rw [if_pos (.inr hdv), Int.add_zero]
  · rw [Int.tdiv_eq_ediv_of_nonneg (by omega)]
set_option maxHeartbeats 4000000 in
set_option maxRecDepth 100000 in
theorem c_Frac (n : Int) (d : Nat) (w : World) (hn : -1000000 ≤ n) (hn' : n ≤ 1000000) (hd : 0 < d) (hd' : d ≤ 1000000) :
    Calls Tryz.prog 63 #[.int .i64 n, .int .i64 d] w fun e w' => RetQ w' e (Rat.divInt n d) ∧ Below w.heap.size w w' := by
  obtain ⟨g, hg⟩ : ∃ g, Nat.gcd n.natAbs d = g := ⟨_, rfl⟩
  have hgp : 0 < g := by rw [← hg]; exact Nat.gcd_pos_of_pos_right _ hd
  have hgd : g ≤ d := by rw [← hg]; exact Nat.gcd_le_right _ hd
  obtain ⟨e1, e2⟩ := frac_val (n := n) hd hg
  obtain ⟨P, hP⟩ : ∃ P, Int.tdiv n (g : Int) = P := ⟨_, rfl⟩
  obtain ⟨Q, hQ⟩ : ∃ Q, Int.tdiv (d : Int) (g : Int) = Q := ⟨_, rfl⟩
  have hPl : -1000000 ≤ P ∧ P ≤ 1000000 := by
    have h : (Int.tdiv n (g : Int)).natAbs ≤ n.natAbs := by rw [Int.natAbs_tdiv]; exact Nat.div_le_self _ _
    rw [hP] at h; omega
  have hQl : -1000000 ≤ Q ∧ Q ≤ 1000000 := by
    have h : (Int.tdiv (d : Int) (g : Int)).natAbs ≤ (d : Int).natAbs := by rw [Int.natAbs_tdiv]; exact Nat.div_le_self _ _
    rw [hQ] at h; omega
  obtain ⟨hP1, hP2⟩ := hPl
  obtain ⟨hQ1, hQ2⟩ := hQl
  rw [hP] at e1
  rw [hQ] at e2
  have HE := Lib.hid (And.intro e1 e2)
  have HZ1 := Lib.hid (fun w1 => c_Z P w1 (by omega) (by omega))
  have HZ2 := Lib.hid (fun w1 => c_Z Q w1 (by omega) (by omega))
  have HG := Lib.hid hg
  have hmx : (if n < -n then -n else n) = (n.natAbs : Int) := by split <;> omega
  have hdi : ¬ ((d : Int) < 0) := by omega
  clear e1 e2 hg
  go_enter Tryz.func63, Tryz.ntmps63
  go_wp2_with fail
  obtain ⟨w0, hw0⟩ : ∃ w0, w.alloc (.cells #[.bool false, .slice none 0 0, .bool false, .slice none 0 0] 35) = w0 := ⟨_, rfl⟩
  rw [hw0]
  obtain ⟨X0, hb0⟩ := box1 w #[.bool false, .slice none 0 0, .bool false, .slice none 0 0] 35
  rw [hw0] at X0 hb0
  have HX0 := Lib.hid X0
  have HB0 := Lib.hid hb0
  have hmx2 : max n (-n) = (n.natAbs : Int) := by omega
  rw [hmx2]
  have HNA := Lib.hid (show n.natAbs ≤ 1000000 by omega)
  clear hw0 X0 hb0 hmx hmx2
  go_loopw [5, 6] (fun x y wr => ∃ a b : Nat, x = .int .i64 a ∧ y = .int .i64 b ∧ Nat.gcd a b = g ∧ a ≤ 1000000 ∧ b ≤ 1000000 ∧ ∃ m, wr = w0.drewN m) (fun _ y _ => (intOf y).toNat)
  case atStart => exact ⟨n.natAbs, d, rfl, rfl, HG.out, HNA.out, hd', 0, rfl⟩
  case round =>
    obtain ⟨a, b, rfl, rfl, hab, ha, hb, m, rfl⟩ := hrel
    rcases Nat.eq_zero_or_pos b with rfl | hbp
    · rw [Nat.gcd_zero_right] at hab
      subst hab
      have hb1 : Below w0.heap.size w0 (w0.drewN m) := below_drewN' (Below.refl _ _) m
      generalize w0.drewN m = wq at hb1 ⊢
      have hx1 := HX0.out.below_ hb1 HX0.out.lt
      have HX1 := Lib.hid hx1
      have HB1 := Lib.hid (HB0.out.trans (hb1.mono HB0.out.size))
      obtain ⟨gr, hgr⟩ : ∃ x, w.heap.size = x := ⟨_, rfl⟩
      rw [hgr] at hx1 HX1 ⊢
      have HGR := Lib.hid hgr
      have T0 := Sts.of hx1 (by intro v hv; simp at hv; rcases hv with rfl | rfl | rfl | rfl <;> first | exact NotInt.bool _ | exact NotInt.slice _ _ _)
      have HT0 := Lib.hid T0
      have hgl : gr < wq.heap.size := hx1.lt
      have v1 : IntKind.i64.wrap P = P := IntWalk.i64_in _ (by omega)
      have v2 : IntKind.i64.wrap Q = Q := IntWalk.i64_in _ (by omega)
      have e5 : ((a : Int) == 0) = false := beq_eq_false_iff_ne.2 (by omega)
      have e6 : a ≠ 0 := by omega
      clear hb1 hgr HB0 HX0
      go_upto_region 6 with (fail)
      have HK1 := Lib.hid (show ∀ wb, Below wq.drew.heap.size wq.drew wb → Below wq.heap.size wq wb from fun wb hb => (Below.refl _ wq).drew.trans hb)
      have HK2 := Lib.hid (show ∀ wa wb, Below wq.heap.size wq wa → Below wa.heap.size wa wb → Below wq.heap.size wq wb from fun wa wb h1 h2 => h1.trans (h2.mono h1.size))
      have hS1 : wq.cell? ⟨gr, 0, none⟩ = some (cellOf wq ⟨gr, 0, none⟩) ∧ wq.frozen? ⟨gr, 0, none⟩ = false ∧ Sts wq (gr) ∧ wq.cell? ⟨gr, 1, none⟩ = some (cellOf wq ⟨gr, 1, none⟩) ∧ wq.frozen? ⟨gr, 1, none⟩ = false ∧ Sts wq (gr) ∧ wq.cell? ⟨gr, 2, none⟩ = some (cellOf wq ⟨gr, 2, none⟩) ∧ wq.frozen? ⟨gr, 2, none⟩ = false ∧ Sts wq (gr) ∧ wq.cell? ⟨gr, 3, none⟩ = some (cellOf wq ⟨gr, 3, none⟩) ∧ wq.frozen? ⟨gr, 3, none⟩ = false ∧ Sts wq (gr) ∧ Below 0 wq wq ∧ 0 ≤ wq.heap.size := ⟨cellOf_some (by rw [hx1.at_ 0 rfl]; rfl), hx1.free_ 0, T0, cellOf_some (by rw [hx1.at_ 1 rfl]; rfl), hx1.free_ 1, T0, cellOf_some (by rw [hx1.at_ 2 rfl]; rfl), hx1.free_ 2, T0, cellOf_some (by rw [hx1.at_ 3 rfl]; rfl), hx1.free_ 3, T0, (Below.refl 0 wq), Nat.le_trans (Nat.zero_le _) (Below.size (Below.refl 0 wq))⟩
      have hS0 : wq.drew.cell? ⟨gr, 0, none⟩ = some (cellOf wq.drew ⟨gr, 0, none⟩) ∧ wq.drew.frozen? ⟨gr, 0, none⟩ = false ∧ Sts wq.drew (gr) ∧ wq.drew.cell? ⟨gr, 1, none⟩ = some (cellOf wq.drew ⟨gr, 1, none⟩) ∧ wq.drew.frozen? ⟨gr, 1, none⟩ = false ∧ Sts wq.drew (gr) ∧ wq.drew.cell? ⟨gr, 2, none⟩ = some (cellOf wq.drew ⟨gr, 2, none⟩) ∧ wq.drew.frozen? ⟨gr, 2, none⟩ = false ∧ Sts wq.drew (gr) ∧ wq.drew.cell? ⟨gr, 3, none⟩ = some (cellOf wq.drew ⟨gr, 3, none⟩) ∧ wq.drew.frozen? ⟨gr, 3, none⟩ = false ∧ Sts wq.drew (gr) ∧ Below 0 wq wq.drew ∧ 0 ≤ wq.drew.heap.size := S0_4_next (Below.refl _ wq).drew hS1
      clear hx1 T0 hS1
      have M1 : True := trivial
      go_region_held3 (fun w1 => w1.cell? ⟨gr, 0, none⟩ = some (cellOf w1 ⟨gr, 0, none⟩) ∧ w1.frozen? ⟨gr, 0, none⟩ = false ∧ Sts w1 (gr) ∧ w1.cell? ⟨gr, 1, none⟩ = some (cellOf w1 ⟨gr, 1, none⟩) ∧ w1.frozen? ⟨gr, 1, none⟩ = false ∧ Sts w1 (gr) ∧ w1.cell? ⟨gr, 2, none⟩ = some (cellOf w1 ⟨gr, 2, none⟩) ∧ w1.frozen? ⟨gr, 2, none⟩ = false ∧ Sts w1 (gr) ∧ w1.cell? ⟨gr, 3, none⟩ = some (cellOf w1 ⟨gr, 3, none⟩) ∧ w1.frozen? ⟨gr, 3, none⟩ = false ∧ Sts w1 (gr) ∧ Below 0 wq w1 ∧ 0 ≤ w1.heap.size)
        (first | with_reducible exact hS0 | with_reducible assumption | (refine S0_4_next (by with_reducible assumption) ?_; assumption) | (refine S0_4_put ?_ ?_ ?_ ?_ ?_ ?_ ?_ ?_ ?_ <;> first | assumption | exact NotInt.bool _ | exact NotInt.slice _ _ _ | (dsimp only; omega) | (simp; done)))
        (first
          | (go_at_call 74; (with_reducible refine (HZ1.out _).mono ?_); rintro e w2 ⟨⟨s2, p2, n2, c2, rfl, hz2⟩, hb2⟩; have HBA := Lib.hid (show Below wq.heap.size wq w2 from by first | exact HK2.out _ _ HBA.out hb2 | exact HK1.out _ hb2))
          | (go_at_call 74; (with_reducible refine (HZ2.out _).mono ?_); rintro e w3 ⟨⟨s3, p3, n3, c3, rfl, hz3⟩, hb3⟩; have HBA := Lib.hid (show Below wq.heap.size wq w3 from by first | exact HK2.out _ _ HBA.out hb3 | exact HK1.out _ hb3)))
      all_goals go_wp2
      all_goals first
        | (have hqf : Qs w3 s2 p2 n2 c2 s3 p3 n3 c3 (Rat.divInt n d) := ⟨by rw [HE.out.1]; exact hz2.keep hb3, by rw [HE.out.2]; exact hz3⟩
           have X3 := HX1.out.below_ HBA.out HX1.out.lt
           obtain ⟨w9, hw9⟩ : ∃ w9, (((w3.setCell ⟨gr, 0, none⟩ (.bool s2)).setCell ⟨gr, 1, none⟩ (.slice p2 n2 c2)).setCell ⟨gr, 2, none⟩ (.bool s3)).setCell ⟨gr, 3, none⟩ (.slice p3 n3 c3) = w9 := ⟨_, rfl⟩
           obtain ⟨E0, E1, E2, E3, hq9⟩ := rat_put X3 hqf hw9
           have hb9 : Below w.heap.size w w9 := by rw [← hw9]; exact below_putR (HB1.out.trans (HBA.out.mono HB1.out.size)) (Nat.le_of_eq HGR.out) _ _ _ _
           rw [hw9]
           try simp only [Exit.inBlock, Exit.then]
           refine bodyPost_ret (by simp [results, Tryz.results63, go_sem, E0, E1, E2, E3]; try rfl) rfl ?_
           exact ⟨⟨s2, p2, n2, c2, s3, p3, n3, c3, rfl, hq9⟩, hb9⟩)
        | (have hqf : Qs w2 s2 p2 n2 c2 s3 p3 n3 c3 (Rat.divInt n d) := ⟨by rw [HE.out.1]; exact hz2, by rw [HE.out.2]; exact hz3.keep hb2⟩
           have X3 := HX1.out.below_ HBA.out HX1.out.lt
           obtain ⟨w9, hw9⟩ : ∃ w9, (((w2.setCell ⟨gr, 0, none⟩ (.bool s2)).setCell ⟨gr, 1, none⟩ (.slice p2 n2 c2)).setCell ⟨gr, 2, none⟩ (.bool s3)).setCell ⟨gr, 3, none⟩ (.slice p3 n3 c3) = w9 := ⟨_, rfl⟩
           obtain ⟨E0, E1, E2, E3, hq9⟩ := rat_put X3 hqf hw9
           have hb9 : Below w.heap.size w w9 := by rw [← hw9]; exact below_putR (HB1.out.trans (HBA.out.mono HB1.out.size)) (Nat.le_of_eq HGR.out) _ _ _ _
           rw [hw9]
           try simp only [Exit.inBlock, Exit.then]
           refine bodyPost_ret (by simp [results, Tryz.results63, go_sem, E0, E1, E2, E3]; try rfl) rfl ?_
           exact ⟨⟨s2, p2, n2, c2, s3, p3, n3, c3, rfl, hq9⟩, hb9⟩)
    · have hbi : (0 : Int) < (b : Int) := by omega
      have e1 : Int.tmod (a : Int) (b : Int) = ((a % b : Nat) : Int) := by rw [Int.tmod_eq_emod_of_nonneg (by omega)]; rfl
      have e2 : ((b : Int) == 0) = false := beq_eq_false_iff_ne.2 (by omega)
      have e3 : b ≠ 0 := by omega
      obtain ⟨r, hr⟩ : ∃ r, a % b = r := ⟨_, rfl⟩
      have hrb : r < b := by rw [← hr]; exact Nat.mod_lt _ hbp
      have HGN := Lib.hid (show Nat.gcd b r = g by rw [← hr, Nat.gcd_comm b, ← Nat.gcd_rec, Nat.gcd_comm]; exact hab)
      rw [hr] at e1
      have v1 : IntKind.i64.wrap (r : Int) = (r : Nat) := IntWalk.i64_in _ (by omega)
      clear hr hab
      go_wp2_with fail
      go_quiet (fail)
      go_wp2
      go_roundw
      case rel => exact ⟨b, r, rfl, rfl, HGN.out, hb, by omega, _, dr2 _ _ _⟩
      case measure => simp [intOf]; omega
end Go.Proofs.YthikonjlgljikaaGreatDoor
