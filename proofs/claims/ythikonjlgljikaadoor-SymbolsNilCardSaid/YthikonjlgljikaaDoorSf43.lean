/- The document's example: the space of level 1, weight 4. A Spec that is refused: manin.Relations and symbols.New. -/
import Derived.Test.YthikonjlgljikaaDoorSf28
import Derived.Test.YthikonjlgljikaaDoorSf31
import Derived.Test.YthikonjlgljikaaDoorSf40
import Derived.Test.YthikonjlgljikaaDoorSf19
import Derived.Test.YthikonjlgljikaaDoorSf42
namespace Go.Proofs.YthikonjlgljikaaDoor
open Go.RowKit Eli

theorem kro3 (D : Int) (l : Nat) : Pl.kroP D l = 0 ∨ Pl.kroP D l = 1 ∨ Pl.kroP D l = -1 := by
  have h : -1 ≤ Pl.kroP D l ∧ Pl.kroP D l ≤ 1 := by
    unfold Pl.kroP
    dsimp only
    split
    · omega
    · have h := jac_pm (l / 2 ^ Lib.ctz 64 l + 1) (D % (l / 2 ^ Lib.ctz 64 l : Nat)).toNat (l / 2 ^ Lib.ctz 64 l) 1 (.inl rfl)
      split <;> omega
  omega
/-- The relations of a space, as one list. -/
def relF (n wt : Nat) (D : Int) (p : Nat) : Int := relOf n wt D (p / ((wt + 1) * (pts n (n * n)).length)) (p % ((wt + 1) * (pts n (n * n)).length))
/-- The number of symbols. -/
def cntF (n wt : Nat) : Nat := (wt + 1) * (pts n (n * n)).length
/-- What elimination leaves of the relations. -/
def elF (n wt : Nat) (D : Int) : Nat → List (Nat × Rat) := elim (cntF n wt) (rowF (cntF n wt) (relF n wt D)) (2 * cntF n wt)
theorem relF_small {n wt : Nat} {D : Int} (hw : wt ≤ 22) (p : Nat) : (relF n wt D p).natAbs ≤ 16777216 := relE_small (plAll_ok (kro3 D) n) hw _ _
theorem elF_good {n wt : Nat} {D : Int} (hw : wt ≤ 22) : Eli.Good (cntF n wt) 16777216 (elF n wt D) := Eli.Good.elim (by omega) (rowF_small (relF_small hw)) (rowF_zero _ _) _
theorem pts_zero {n : Nat} (hn : 0 < n) : 0 < (pts n (n * n)).length := by
  have key : ∀ a, a < n * n → pok n a = true → plst n a = true → 0 < (pts n (n * n)).length := by
    intro a h1 h2 h3
    refine List.length_pos_of_mem (a := a) ?_
    rw [pts_filter hn _ (Nat.le_refl _), List.mem_filter]
    exact ⟨List.mem_range.2 h1, by rw [h2, h3]; rfl⟩
  rcases Nat.eq_or_lt_of_le (show 1 ≤ n from hn) with rfl | h
  · exact key 0 (by omega) (by decide) (by decide)
  · have h1 : 1 < n * n := Nat.lt_of_lt_of_le h (Nat.le_mul_of_pos_left n hn)
    have hd : 1 / n = 0 := Nat.div_eq_of_lt h
    have hm : 1 % n = 1 := Nat.mod_eq_of_lt h
    refine key 1 h1 ?_ ?_
    · unfold pok; rw [hd, hm]; simp
    · rw [plst_iff]
      intro s h2 h3 h4
      have h5 : s ≠ n := fun e => by
        subst e
        unfold pun at h4
        simp only [beq_iff_eq, Nat.gcd_self] at h4
        omega
      unfold pmul
      rw [hd, hm, Nat.mul_zero, Nat.zero_mod, Nat.zero_mul, Nat.zero_add, Nat.mul_one, Nat.mod_eq_of_lt (by omega)]
      exact h2
theorem cntF_pos {n wt : Nat} (hn : 0 < n) : 0 < cntF n wt := Nat.mul_pos (by omega) (pts_zero hn)
theorem c_New (n wt : Nat) (D : Int) (w : World) (hT : Tab w) (hck : Pl.check n ((wt : Int) + 2) D = 0) (hC : cntF n wt ≤ 72) :
    Calls Tryd.prog 16 #[.agg #[.int .i64 n, .int .i64 ((wt : Int) + 2), .int .i64 D]] w fun e w' => (∃ M, e = .returned (.tuple #[.pointer (some ⟨M, 0, none⟩), .int .i64 0]) ∧ w.heap.size ≤ M ∧ ModAt w' M w'.heap.size n ((wt : Int) + 2) D (frs (elF n wt D) (cntF n wt)) (cntF n wt) (crd (elF n wt D) (cntF n wt) (cntF n wt))) ∧ Below w.heap.size w w' := by
  obtain ⟨h1, h2, h3, h4, h5, h6⟩ := check_zero hck
  exact c_New_ok n ((wt : Int) + 2) D (2 * cntF n wt) (cntF n wt) (relF n wt D) w (fun w1 hb => c_Relations_ok n wt D (pts n (n * n)) (cntF n wt) w1 (hT.below hb) (by omega) (by omega) (by omega) (by omega) (by omega) hck (kro3 D) rfl rfl (cntF_pos (by omega)) hC) (by omega) (cntF_pos (by omega)) hC (relF_small (by omega))
theorem coord_size {n wt : Nat} {D : Int} (hw : wt ≤ 22) (hC : cntF n wt ≤ 72) {j f : Nat} (hj : j < cntF n wt) (hf : f ∈ frs (elF n wt D) (cntF n wt)) : hq (crd (elF n wt D) (cntF n wt) (cntF n wt) j f) ≤ 80 := by
  obtain ⟨h1, h2⟩ := frs_mem.1 hf
  exact Nat.le_trans (crd_size (by omega) (elF_good hw) (by omega) (Nat.le_refl _) hj h1 h2) (top_72 hC (Nat.le_refl _))
theorem aw_frs : frs (elF 1 2 1) (cntF 1 2) = [2] := by decide +kernel
theorem aw_crd : crd (elF 1 2 1) (cntF 1 2) (cntF 1 2) 0 2 = -1 := by decide +kernel
theorem aw_cnt : cntF 1 2 = 3 := by decide +kernel
theorem aw_check : Pl.check ((1 : Nat) : Int) (((2 : Nat) : Int) + 2) 1 = 0 := by decide +kernel
set_option maxHeartbeats 4000000 in
set_option maxRecDepth 100000 in
theorem c_awake (w : World) (hT : Tab w) :
    Calls Tryd.prog 14 #[] w fun e w' => e = .returned (.bool true) ∧ Below w.heap.size w w' := by
  have HNW := Lib.hid (show ∀ W, Below w.heap.size w W → Calls Tryd.prog 16 #[.agg #[.int .i64 1, .int .i64 4, .int .i64 1]] W fun e w' => (∃ M, e = .returned (.tuple #[.pointer (some ⟨M, 0, none⟩), .int .i64 0]) ∧ W.heap.size ≤ M ∧ ModAt w' M w'.heap.size 1 4 1 [2] 3 (crd (elF 1 2 1) 3 3)) ∧ Below W.heap.size W w' from fun W hb => by
    have h := c_New 1 2 1 W (hT.below hb) aw_check (by rw [aw_cnt]; omega)
    rw [aw_frs, aw_cnt] at h
    exact h)
  obtain ⟨X, hX⟩ : ∃ X, crd (elF 1 2 1) 3 3 = X := ⟨_, rfl⟩
  have HX := Lib.hid (show X 0 2 = -1 by have h := aw_crd; rw [aw_cnt, hX] at h; exact h)
  rw [hX] at HNW
  clear hT hX
  go_enter Tryd.func14, Tryd.ntmps14
  go_wp2_with fail
  refine (HNW.out w (Below.refl _ w)).mono ?_
  rintro e w1 ⟨⟨M, rfl, hM, hmod⟩, hb1⟩
  have HM1 := Lib.hid hmod
  have HB1 := Lib.hid hb1
  clear hM hmod hb1 HNW
  go_wp2_with fail
  refine (c_Reduce M w1.heap.size 1 4 1 [2] 3 X 0 w1 HM1.out (by omega) (by decide) (fun f hf => by
    simp only [List.mem_singleton] at hf
    subst hf
    rw [HX.out]; decide)).mono ?_
  rintro e w2 ⟨⟨g, rfl, hg, hrow⟩, hb2⟩
  have HR2 := Lib.hid (show QRow (fun _ => IsQ (-1)) w2 g 1 1 from QRow.congr hrow (fun j hj => by
    have hj' : j < 1 := hj
    obtain rfl : j = 0 := by omega
    show IsQ (X 0 2) = _
    rw [HX.out]))
  have HM2 := Lib.hid (HM1.out.keep (Nat.le_refl _) hb2)
  have HB2 := Lib.hid (HB1.out.trans (hb2.mono HB1.out.size))
  have HS2 := Lib.hid hb2.size
  clear hg hrow hb2 HM1 HB1
  go_wp2_with fail
  refine (c_Dim M w1.heap.size 1 4 1 [2] 3 X w2 HM2.out).mono ?_
  rintro e w3 ⟨rfl, hw⟩
  rw [hw]
  clear hw
  go_wp2_with fail
  refine (c_Free M w1.heap.size 1 4 1 [2] 3 X w2 HM2.out (by decide)).mono ?_
  rintro e w3 ⟨⟨v, rfl, hown⟩, hb3⟩
  obtain ⟨p, c, rfl⟩ := own_slice hown.1
  have HO3 := Lib.hid hown
  have HR3 := Lib.hid (QRow.keep (fun _ => IsQ.solid _) HR2.out hb3)
  have HB3 := Lib.hid (HB2.out.trans (hb3.mono HB2.out.size))
  clear hown hb3 HR2 HB2 HM2 HS2
  go_wp2_with fail
  obtain ⟨w4, hw4⟩ : ∃ w4, w3.alloc (.cells #[.int .i64 2] 3) = w4 := ⟨_, rfl⟩
  obtain ⟨X4, hb4⟩ := box1 w3 #[.int .i64 2] 3
  rw [hw4] at X4 hb4 ⊢
  have HN1 := Lib.hid ((HO3.out.keep hb4).nl)
  have HN2 := Lib.hid (show NL [2] w4 w4.heap.size (.slice (some ⟨w3.heap.size, 0, none⟩) 1 1) from .inr ⟨w3.heap.size, 1, rfl, Nat.le_refl _, by omega, X4.lt, fun j x hj => by
    rcases j with _ | j
    · injection hj with hj; subst hj; exact X4.at_ 0 rfl
    · cases hj⟩)
  have HR4 := Lib.hid (QRow.keep (fun _ => IsQ.solid _) HR3.out hb4)
  have HB4 := Lib.hid (HB3.out.trans (hb4.mono HB3.out.size))
  clear hw4 X4 hb4 HO3 HR3 HB3
  refine (c_Ints_eq _ _ [2] w4 HN1.out HN2.out).mono ?_
  rintro e w5 ⟨rfl, m, rfl⟩
  have hb5 : Below w4.heap.size w4 (w4.drewN m) := below_drewN' (Below.refl _ _) m
  generalize w4.drewN m = w5 at hb5 ⊢
  have HR5 := Lib.hid (QRow.keep (fun _ => IsQ.solid _) HR4.out hb5)
  have HB5 := Lib.hid (HB4.out.trans (hb5.mono HB4.out.size))
  clear hb5 HN1 HN2 HR4 HB4
  go_wp2_with fail
  obtain ⟨w6, hw6⟩ : ∃ w6, w5.alloc (.cells #[.int .i64 (-1)] 3) = w6 := ⟨_, rfl⟩
  obtain ⟨X6, hb6⟩ := box1 w5 #[.int .i64 (-1)] 3
  rw [hw6] at X6 hb6 ⊢
  have HR6 := Lib.hid (QRow.keep (fun _ => IsQ.solid _) HR5.out hb6)
  have HB6 := Lib.hid (HB5.out.trans (hb6.mono HB5.out.size))
  refine (c_Qs w5.heap.size 1 1 (fun _ => -1) w6 X6.lt (fun j hj => by
    obtain rfl : j = 0 := by omega
    exact X6.at_ 0 rfl) (fun j _ => by omega) (by omega)).mono ?_
  rintro e w7 ⟨⟨v7, rfl, hq7⟩, hb7⟩
  have HR7 := Lib.hid ((QRow.keep (fun _ => IsQ.solid _) HR6.out hb7).ql 1)
  have HQ7 := Lib.hid (show QL (fun _ => IsQ (-1)) w7 v7 1 from hq7.ql)
  have HB7 := Lib.hid (HB6.out.trans (hb7.mono HB6.out.size))
  clear hw6 X6 hb6 hq7 hb7 HR5 HB5 HR6 HB6
  go_wp2_with fail
  refine (c_SameRats_eq _ _ 1 (fun _ => -1) w7 HR7.out HQ7.out (by omega) (fun j _ => by decide)).mono ?_
  rintro e w8 ⟨rfl, hb8⟩
  have HB8 := Lib.hid (HB7.out.trans (hb8.mono HB7.out.size))
  clear hb8 HR7 HQ7 HB7
  go_wp2
  go_ret
  exact ⟨rfl, HB8.out⟩
end Go.Proofs.YthikonjlgljikaaDoor
namespace Go.Proofs.YthikonjlgljikaaDoor
open Go.RowKit Eli

set_option maxHeartbeats 4000000 in
set_option maxRecDepth 100000 in
theorem c_Relations_bad (N k D : Int) (w : World) (hck : Pl.check N k D ≠ 0) :
    Calls Tryd.prog 34 #[.agg #[.int .i64 N, .int .i64 k, .int .i64 D]] w fun e w' => e = .returned (.tuple #[.agg #[.int .i64 0, .int .i64 0, .slice none 0 0], .int .i64 (Pl.check N k D)]) ∧ Below w.heap.size w w' := by
  have HEN := Lib.hid (fun W => c_enter_bad N k D W hck)
  obtain ⟨er, her⟩ : ∃ er, Pl.check N k D = er := ⟨_, rfl⟩
  rw [her] at hck HEN ⊢
  have hne : (er != 0) = true := by simpa using hck
  clear her hck
  go_enter Tryd.func34, Tryd.ntmps34
  go_wp2_with fail
  obtain ⟨w0, hw0⟩ : ∃ w0, (w.alloc (.cells #[.int .i64 N, .int .i64 k, .int .i64 D] 23)).alloc (.cells #[.int .i64 0, .int .i64 0, .slice none 0 0] 72) = w0 := ⟨_, rfl⟩
  rw [hw0]
  obtain ⟨X0, X1, hb0⟩ := box2 w #[.int .i64 N, .int .i64 k, .int .i64 D] 23 #[.int .i64 0, .int .i64 0, .slice none 0 0] 72
  rw [hw0] at X0 X1 hb0
  refine (HEN.out w0).mono ?_
  rintro e w1 ⟨rfl, hb1⟩
  have HX1 := Lib.hid (X1.below_ hb1 X1.lt)
  have HB1 := Lib.hid (hb0.trans (hb1.mono hb0.size))
  obtain ⟨gr, hgr⟩ : ∃ x, w.heap.size + 1 = x := ⟨_, rfl⟩
  have HGR := Lib.hid hgr
  rw [hgr] at HX1 ⊢
  have r0 := HX1.out.at_ 0 rfl
  have r1 := HX1.out.at_ 1 rfl
  have r2 := HX1.out.at_ 2 rfl
  have f0 := HX1.out.free_ 0
  have f1 := HX1.out.free_ 1
  have f2 := HX1.out.free_ 2
  have HE3 := Lib.hid (put3_at (w := w1) (R := gr) (v0 := .int .i64 0) (v1 := .int .i64 0) (v2 := .slice none 0 0) (by rw [r0]; rfl) (by rw [r1]; rfl) (by rw [r2]; rfl))
  clear hw0 X0 X1 hb0 hb1 hgr HEN
  go_wp2
  have e0 := HE3.out.1
  have e1 := HE3.out.2.1
  have e2 := HE3.out.2.2
  try simp only [Exit.inBlock, Exit.then]
  refine bodyPost_ret (by simp [results, Tryd.results34, go_sem, e0, e1, e2]; try rfl) rfl ?_
  exact ⟨rfl, ((HB1.out.setCell (p := ⟨gr, 0, none⟩) (by have := HGR.out; show w.heap.size ≤ gr; omega) _).setCell (p := ⟨gr, 1, none⟩) (by have := HGR.out; show w.heap.size ≤ gr; omega) _).setCell (p := ⟨gr, 2, none⟩) (by have := HGR.out; show w.heap.size ≤ gr; omega) _⟩
theorem c_New_check (N k D : Int) (w : World) (hck : Pl.check N k D ≠ 0) :
    Calls Tryd.prog 16 #[.agg #[.int .i64 N, .int .i64 k, .int .i64 D]] w fun e w' => e = .returned (.tuple #[.pointer none, .int .i64 (Pl.check N k D)]) ∧ Below w.heap.size w w' :=
  c_New_bad N k D (Pl.check N k D) w (fun w1 _ => (c_Relations_bad N k D w1 hck).mono (fun _ _ h => ⟨⟨0, 0, h.1⟩, h.2⟩)) hck
end Go.Proofs.YthikonjlgljikaaDoor
