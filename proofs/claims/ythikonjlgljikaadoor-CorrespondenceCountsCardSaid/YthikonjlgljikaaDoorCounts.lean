/- The function of the statement CorrespondenceCounts returns true. -/
import Derived.Test.YthikonjlgljikaaDoorSame
import Derived.Test.YthikonjlgljikaaDoorPlain4
namespace Go.Proofs.YthikonjlgljikaaDoor
open Go.RowKit

theorem c_prime (n : Nat) (w : World) (h0 : 0 < n) (hn : n ≤ 64) :
    Calls Tryd.prog 30 #[.int .i64 n] w fun e w' => e = .returned (.bool (Pl.primeB n)) ∧ w = w' := by
  by_cases h2 : n < 2
  · have hp : Pl.primeB n = false := by unfold Pl.primeB; rw [if_pos h2]
    rw [hp]
    go_enter Tryd.func30, Tryd.ntmps30
    go_wp2
    all_goals try (exfalso; omega)
    go_ret
    exact ⟨rfl, rfl⟩
  · have hp : Pl.primeB n = Pl.primeGo (n + 1) 2 n := by unfold Pl.primeB; rw [if_neg h2]
    rw [hp]
    clear hp
    go_enter Tryd.func30, Tryd.ntmps30
    go_wp2
    all_goals try (exfalso; omega)
    go_loop [3] (fun x => ∃ (p f : Nat), x = .int .i64 p ∧ 1 < p ∧ p ≤ n + 2 ∧ n < p + f ∧ Pl.primeGo f p n = Pl.primeGo (n + 1) 2 n) (fun x => n + 2 - (intOf x).toNat)
    case atStart => exact ⟨2, n + 1, rfl, by omega, by omega, by omega, rfl⟩
    case round =>
      obtain ⟨p, f, rfl, hp, hpn, hf, hfr⟩ := hrel
      obtain ⟨pp, hpp⟩ : ∃ pp : Nat, pp = p * p := ⟨_, rfl⟩
      have hppi : (p : Int) * (p : Int) = (pp : Int) := by rw [hpp]; exact (Int.natCast_mul _ _).symm
      have hppb : pp ≤ 2000000 := by rw [hpp]; exact Nat.le_trans (sq_le p 1002 (by omega)) (by omega)
      have hple : p * 2 ≤ pp := by rw [hpp]; exact Nat.mul_le_mul_left _ (by omega)
      by_cases hle : pp ≤ n
      · obtain ⟨g, rfl⟩ : ∃ g, f = g + 1 := ⟨f - 1, by omega⟩
        rw [Pl.primeGo, ← hpp, if_pos hle] at hfr
        by_cases hd : n % p = 0
        · rw [if_pos hd] at hfr
          have hdi : ((n : Int) % (p : Int) == 0) = true := by rw [← Int.natCast_emod, hd]; rfl
          have HF := Lib.hid hfr
          have HPP := Lib.hid hpp
          clear hfr hpp hd
          go_wp2
          go_ret
          exact ⟨ret_b HF.out, rfl⟩
        · rw [if_neg hd] at hfr
          have hdi : ((n : Int) % (p : Int) == 0) = false := by rw [← Int.natCast_emod]; exact beq_eq_false_iff_ne.2 (by omega)
          have HF := Lib.hid hfr
          have HPP := Lib.hid hpp
          clear hfr hpp hd
          go_wp2
          go_round
          case rel => exact ⟨p + 1, g, by go_num, by omega, by omega, by omega, HF.out⟩
          case measure => simp [intOf]; omega
      · have hfr' : Pl.primeGo (n + 1) 2 n = true := by
          rw [← hfr]
          cases f with
          | zero => rfl
          | succ f => rw [Pl.primeGo, ← hpp, if_neg hle]
        have HF := Lib.hid hfr'
        have HPP := Lib.hid hpp
        clear hfr hpp hfr'
        go_wp2
        go_ret
        exact ⟨ret_b HF.out.symm, rfl⟩
theorem c_IsPrime (n : Nat) (w : World) (h0 : 0 < n) (hn : n ≤ 64) :
    Calls Tryd.prog 13 #[.int .i64 n] w fun e w' => e = .returned (.tuple #[.bool (Pl.primeB n), .int .i64 0]) ∧ w = w' := by
  go_enter Tryd.func13, Tryd.ntmps13
  go_wp2_with (go_at_call 30; refine (c_prime n _ h0 hn).mono ?_; rintro e w' ⟨rfl, rfl⟩)
  go_ret2
  exact ⟨rfl, rfl⟩

/-- The shape of an owned row's value. -/
theorem own_slice {w : World} {B E sz n : Nat} {v : Value} {xs : List Value} (h : w.ownsRow B E sz v n xs) : ∃ A c, v = .slice A n c := by
  rcases own_shape h with ⟨rfl, rfl, _⟩ | ⟨g, cap, rfl, _⟩
  · exact ⟨_, _, rfl⟩
  · exact ⟨_, _, rfl⟩
theorem Two.shapes {w : World} {B : Nat} {v1 v2 : Value} {L : List Pl.Cos} (h : Two w B v1 v2 L) : ∃ A1 c1 A2 c2, v1 = .slice A1 L.length c1 ∧ v2 = .slice A2 L.length c2 := by
  obtain ⟨A1, c1, e1⟩ := own_slice h.mats
  obtain ⟨A2, c2, e2⟩ := own_slice h.facs
  exact ⟨A1, c1, A2, c2, e1, e2⟩
theorem cosE_in {N k D n : Int} (h1 : 1 ≤ n) (h2 : n ≤ 128) : Pl.cosE N k D n = Pl.check N k D := by
  unfold Pl.cosE
  split
  · rfl
  · rw [if_neg (by omega)]; omega
theorem cosL_bad {N k D n : Int} {chi : Nat → Int} (h1 : 1 ≤ n) (h2 : n ≤ 128) (h : Pl.check N k D ≠ 0) : (Pl.cosL chi N k D n).length = 0 := by
  unfold Pl.cosL; rw [if_neg (by rw [cosE_in h1 h2]; exact h)]; rfl
theorem cosL_ok {N k D n : Int} {chi : Nat → Int} (h1 : 1 ≤ n) (h2 : n ≤ 128) (h : Pl.check N k D = 0) : (Pl.cosL chi N k D n).length = Pl.cnt N.toNat n.toNat := by
  unfold Pl.cosL; rw [if_pos (by rw [cosE_in h1 h2]; exact h), Pl.cnt_eq]; rfl

set_option maxHeartbeats 4000000 in
set_option maxRecDepth 100000 in
theorem c_lawCounts_early (N k D a b : Int) (w : World) (hT : Tab w) (h : a < 1 ∨ b < 1 ∨ 64 < a ∨ 64 < b ∨ 64 < a * b ∨ Int.gcd a b ≠ 1) :
    Calls Tryd.prog 4 #[spec N k D, .int .i64 a, .int .i64 b] w fun e w' => e = .returned (.bool true) ∧ Below w.heap.size w w' := by
  have HT := Lib.hid hT
  clear hT
  by_cases h1 : a < 1
  · go_enter Tryd.func4, Tryd.ntmps4
    go_wp2_with (go_at_call 7; refine (c_awake46 _ (HT.out.below ((Below.refl _ _).alloc (Nat.le_refl _) _))).mono ?_; rintro en w1 ⟨rfl, hb1⟩)
    all_goals try (exfalso; omega)
    go_ret
    simp only [World.size_alloc] at hb1
    exact ⟨rfl, ((Below.refl _ _).alloc (Nat.le_refl _) _).trans (hb1.mono (by omega))⟩
  by_cases h2 : b < 1
  · go_enter Tryd.func4, Tryd.ntmps4
    go_wp2_with (go_at_call 7; refine (c_awake46 _ (HT.out.below ((Below.refl _ _).alloc (Nat.le_refl _) _))).mono ?_; rintro en w1 ⟨rfl, hb1⟩)
    all_goals try (exfalso; omega)
    go_ret
    simp only [World.size_alloc] at hb1
    exact ⟨rfl, ((Below.refl _ _).alloc (Nat.le_refl _) _).trans (hb1.mono (by omega))⟩
  by_cases h3 : 64 < a
  · go_enter Tryd.func4, Tryd.ntmps4
    go_wp2_with (go_at_call 7; refine (c_awake46 _ (HT.out.below ((Below.refl _ _).alloc (Nat.le_refl _) _))).mono ?_; rintro en w1 ⟨rfl, hb1⟩)
    all_goals try (exfalso; omega)
    go_ret
    simp only [World.size_alloc] at hb1
    exact ⟨rfl, ((Below.refl _ _).alloc (Nat.le_refl _) _).trans (hb1.mono (by omega))⟩
  by_cases h4 : 64 < b
  · go_enter Tryd.func4, Tryd.ntmps4
    go_wp2_with (go_at_call 7; refine (c_awake46 _ (HT.out.below ((Below.refl _ _).alloc (Nat.le_refl _) _))).mono ?_; rintro en w1 ⟨rfl, hb1⟩)
    all_goals try (exfalso; omega)
    go_ret
    simp only [World.size_alloc] at hb1
    exact ⟨rfl, ((Below.refl _ _).alloc (Nat.le_refl _) _).trans (hb1.mono (by omega))⟩
  have m0 : 0 ≤ a * b := Int.mul_nonneg (by omega) (by omega)
  have m1 : a * b ≤ 64 * 64 := Int.mul_le_mul (by omega) (by omega) (by omega) (by omega)
  by_cases h5 : 64 < a * b
  · go_enter Tryd.func4, Tryd.ntmps4
    go_wp2_with (go_at_call 7; refine (c_awake46 _ (HT.out.below ((Below.refl _ _).alloc (Nat.le_refl _) _))).mono ?_; rintro en w1 ⟨rfl, hb1⟩)
    all_goals try (exfalso; omega)
    go_ret
    simp only [World.size_alloc] at hb1
    exact ⟨rfl, ((Below.refl _ _).alloc (Nat.le_refl _) _).trans (hb1.mono (by omega))⟩
  have hg : Int.gcd a b ≠ 1 := by omega
  obtain ⟨g, hgg⟩ : ∃ g, Int.gcd a b = g := ⟨_, rfl⟩
  rw [hgg] at hg
  have HG := Lib.hid hgg
  have hgb : ((g : Int) != 1) = true := by rw [bne_iff_ne]; omega
  clear h hgg
  go_enter Tryd.func4, Tryd.ntmps4
  go_wp2_with (first | (go_at_call 7; refine (c_awake46 _ (HT.out.below ((Below.refl _ _).alloc (Nat.le_refl _) _))).mono ?_; rintro en w1 ⟨rfl, hb1⟩) | (go_at_call 12; refine (c_gcd _ _ _ (by omega) (by omega) (by omega) (by omega)).mono ?_; rw [HG.out]; rintro e wx ⟨rfl, hqx⟩; have hbx := quiet_below hqx; have HBX := Lib.hid hbx; clear hbx hqx))
  all_goals try (exfalso; omega)
  go_ret
  simp only [World.size_alloc] at hb1
  exact ⟨rfl, (((Below.refl _ _).alloc (Nat.le_refl _) _).trans (hb1.mono (by omega))).trans (HBX.out.mono (by have := hb1.size; simp at this; omega))⟩

set_option maxHeartbeats 4000000 in
set_option maxRecDepth 100000 in
theorem c_lawCounts_main (N k D : Int) (a b : Nat) (w : World) (hT : Tab w) (ha : 0 < a) (ha' : a ≤ 64) (hb' : 0 < b) (hb2 : b ≤ 64) (hab : a * b ≤ 64) (hg : Nat.gcd a b = 1) :
    Calls Tryd.prog 4 #[spec N k D, .int .i64 a, .int .i64 b] w fun e w' => e = .returned (.bool true) ∧ Below w.heap.size w w' := by
  have HT := Lib.hid hT
  clear hT
  obtain ⟨p, hp⟩ : ∃ p, a * b = p := ⟨_, rfl⟩
  have hpi : (a : Int) * (b : Int) = (p : Int) := by rw [← hp]; exact (Int.natCast_mul _ _).symm
  have hp0 : 0 < p := by rw [← hp]; exact Nat.mul_pos ha hb'
  rw [hp] at hab
  have HG := Lib.hid (show ((Int.gcd (a : Int) (b : Int) : Nat) : Int) = 1 by rw [show Int.gcd (a : Int) (b : Int) = Nat.gcd a b from rfl, hg]; rfl)
  have Hg := Lib.hid hg
  have HP := Lib.hid hp
  obtain ⟨E, hE⟩ : ∃ E, Pl.check N k D = E := ⟨_, rfl⟩
  have HE := Lib.hid hE
  have C1 := fun w hT => c_Cosets N k D a w hT
  have C2 := fun w hT => c_Cosets N k D b w hT
  have C3 := fun w hT => c_Cosets N k D p w hT
  rw [cosE_in (by omega) (by omega), hE] at C1 C2 C3
  obtain ⟨la, hla⟩ : ∃ la, (Pl.cosL (Pl.kroP D) N k D a).length = la := ⟨_, rfl⟩
  obtain ⟨lb, hlb⟩ : ∃ lb, (Pl.cosL (Pl.kroP D) N k D b).length = lb := ⟨_, rfl⟩
  obtain ⟨lp, hlp⟩ : ∃ lp, (Pl.cosL (Pl.kroP D) N k D p).length = lp := ⟨_, rfl⟩
  have ba : la ≤ 1000000 := by rw [← hla]; exact cos_len _ _ _ _ _
  have bb : lb ≤ 1000000 := by rw [← hlb]; exact cos_len _ _ _ _ _
  have bp : lp ≤ 1000000 := by rw [← hlp]; exact cos_len _ _ _ _ _
  have HLA := Lib.hid hla
  have HLB := Lib.hid hlb
  have HLP := Lib.hid hlp
  generalize Pl.cosL (Pl.kroP D) N k D a = La at C1 hla
  generalize Pl.cosL (Pl.kroP D) N k D b = Lb at C2 hlb
  generalize Pl.cosL (Pl.kroP D) N k D p = Lp at C3 hlp
  subst hla hlb hlp
  have H1 := Lib.hid C1
  have H2 := Lib.hid C2
  have H3 := Lib.hid C3
  clear C1 C2 C3 hE hg hp
  go_enter Tryd.func4, Tryd.ntmps4
  go_wp2_with (go_at_call 7; refine (c_awake46 _ (HT.out.below ((Below.refl _ _).alloc (Nat.le_refl _) _))).mono ?_; rintro en w1 ⟨rfl, hb1⟩)
  all_goals try (exfalso; omega)
  simp only [World.size_alloc] at hb1
  have XB1 : Blk w1 w.heap.size 23 #[.int .i64 N, .int .i64 k, .int .i64 D] := (Blk.new w _ _).below_ hb1 (by omega)
  have XW1 : Below w.heap.size w w1 := ((Below.refl _ _).alloc (Nat.le_refl _) _).trans (hb1.mono (by omega))
  have HXB := Lib.hid XB1
  have HXW := Lib.hid XW1
  clear hb1 XB1 XW1
  refine (c_gcd _ _ _ (by omega) (by omega) (by omega) (by omega)).mono ?_
  rw [HG.out]
  rintro e w2 ⟨rfl, hqx⟩
  have hb := quiet_below hqx
  have YW : Below w.heap.size w w2 := HXW.out.trans (hb.mono HXW.out.size)
  have YB : Blk w2 w.heap.size 23 #[.int .i64 N, .int .i64 k, .int .i64 D] := HXB.out.below_ hb HXB.out.lt
  have y0 : w2.cell? ⟨w.heap.size, 0, none⟩ = some (.int .i64 N) := YB.at_ 0 rfl
  have y1 : w2.cell? ⟨w.heap.size, 1, none⟩ = some (.int .i64 k) := YB.at_ 1 rfl
  have y2 : w2.cell? ⟨w.heap.size, 2, none⟩ = some (.int .i64 D) := YB.at_ 2 rfl
  have HYW := Lib.hid YW
  have HYB := Lib.hid YB
  clear YW YB hb hqx
  go_wp2_with fail
  refine (H1.out _ (HT.out.below HYW.out)).mono ?_
  rintro en w3 ⟨⟨v1, v2, rfl, ht⟩, hb⟩
  obtain ⟨Az1, cz1, Az2, cz2, rfl, rfl⟩ := ht.shapes
  have ZW : Below w.heap.size w w3 := HYW.out.trans (hb.mono HYW.out.size)
  have ZB : Blk w3 w.heap.size 23 #[.int .i64 N, .int .i64 k, .int .i64 D] := HYB.out.below_ hb HYB.out.lt
  have z0 : w3.cell? ⟨w.heap.size, 0, none⟩ = some (.int .i64 N) := ZB.at_ 0 rfl
  have z1 : w3.cell? ⟨w.heap.size, 1, none⟩ = some (.int .i64 k) := ZB.at_ 1 rfl
  have z2 : w3.cell? ⟨w.heap.size, 2, none⟩ = some (.int .i64 D) := ZB.at_ 2 rfl
  have HZW := Lib.hid ZW
  have HZB := Lib.hid ZB
  clear ZW ZB hb ht y0 y1 y2
  go_wp2_with fail
  refine (H2.out _ (HT.out.below HZW.out)).mono ?_
  rintro en w4 ⟨⟨v3, v4, rfl, ht⟩, hb⟩
  obtain ⟨Au1, cu1, Au2, cu2, rfl, rfl⟩ := ht.shapes
  have UW : Below w.heap.size w w4 := HZW.out.trans (hb.mono HZW.out.size)
  have UB : Blk w4 w.heap.size 23 #[.int .i64 N, .int .i64 k, .int .i64 D] := HZB.out.below_ hb HZB.out.lt
  have u0 : w4.cell? ⟨w.heap.size, 0, none⟩ = some (.int .i64 N) := UB.at_ 0 rfl
  have u1 : w4.cell? ⟨w.heap.size, 1, none⟩ = some (.int .i64 k) := UB.at_ 1 rfl
  have u2 : w4.cell? ⟨w.heap.size, 2, none⟩ = some (.int .i64 D) := UB.at_ 2 rfl
  have HUW := Lib.hid UW
  have HUB := Lib.hid UB
  clear UW UB hb ht z0 z1 z2
  go_wp2_with fail
  refine (H3.out _ (HT.out.below HUW.out)).mono ?_
  rintro en w5 ⟨⟨v5, v6, rfl, ht⟩, hb⟩
  obtain ⟨At1, ct1, At2, ct2, rfl, rfl⟩ := ht.shapes
  have TW : Below w.heap.size w w5 := HUW.out.trans (hb.mono HUW.out.size)
  have TB : Blk w5 w.heap.size 23 #[.int .i64 N, .int .i64 k, .int .i64 D] := HUB.out.below_ hb HUB.out.lt
  have t0 : w5.cell? ⟨w.heap.size, 0, none⟩ = some (.int .i64 N) := TB.at_ 0 rfl
  have t1 : w5.cell? ⟨w.heap.size, 1, none⟩ = some (.int .i64 k) := TB.at_ 1 rfl
  have t2 : w5.cell? ⟨w.heap.size, 2, none⟩ = some (.int .i64 D) := TB.at_ 2 rfl
  have HTW := Lib.hid TW
  have HTB := Lib.hid TB
  clear TW TB hb ht u0 u1 u2
  by_cases hc : E = 0
  · have hN := Pl.check_ok (HE.out.trans hc)
    obtain ⟨⟨n1, n2⟩, _⟩ := hN
    have fa := (cosL_ok (n := (a : Int)) (chi := Pl.kroP D) (by omega) (by omega) (HE.out.trans hc)).symm.trans HLA.out
    have fb := (cosL_ok (n := (b : Int)) (chi := Pl.kroP D) (by omega) (by omega) (HE.out.trans hc)).symm.trans HLB.out
    have fp := (cosL_ok (n := (p : Int)) (chi := Pl.kroP D) (by omega) (by omega) (HE.out.trans hc)).symm.trans HLP.out
    rw [Int.toNat_natCast] at fa fb fp
    obtain ⟨m, rfl⟩ := Int.eq_ofNat_of_zero_le (show 0 ≤ N by omega)
    rw [Int.toNat_natCast] at fa fb fp
    obtain ⟨c1, c2⟩ := Pl.cnt_facts (N := m) (a := a) (by omega) (by omega) ha ha'
    have c3 := c2 b hb' (by rw [HP.out]; exact hab) Hg.out
    rw [HP.out, fa, fb, fp] at c3
    rw [fa] at c1
    have hmul : (La.length : Int) * (Lb.length : Int) = (Lp.length : Int) := by rw [c3]; exact (Int.natCast_mul _ _).symm
    subst hc
    have HC1 := Lib.hid c1
    clear c1 c2 c3 fa fb fp
    by_cases hd : m % a = 0
    · have hdb : ((m : Int) % (a : Int) == 0) = true := by rw [← Int.natCast_emod, hd]; rfl
      by_cases hpr : Pl.primeB a = true
      · have hw : La.length = a := by rw [HC1.out hpr, if_pos hd]
        have hwb : ((La.length : Int) == (a : Int)) = true := by rw [hw]; simp
        have HPR := Lib.hid hpr
        have HW0 := Lib.hid hw
        clear hpr hd hw
        go_wp2_with (go_at_call 13; refine (c_IsPrime a _ ha ha').mono ?_; rw [HPR.out]; rintro e w' ⟨rfl, rfl⟩)
        go_ret
        exact ⟨by simp, HTW.out⟩
      · have hpr' : Pl.primeB a = false := by simpa using hpr
        have HPR := Lib.hid hpr'
        clear hpr hpr' hd
        go_wp2_with (go_at_call 13; refine (c_IsPrime a _ ha ha').mono ?_; rw [HPR.out]; rintro e w' ⟨rfl, rfl⟩)
        go_ret
        exact ⟨by simp, HTW.out⟩
    · have hdb : ((m : Int) % (a : Int) == 0) = false := by rw [← Int.natCast_emod]; exact beq_eq_false_iff_ne.2 (by omega)
      by_cases hpr : Pl.primeB a = true
      · have hw : La.length = a + 1 := by rw [HC1.out hpr, if_neg hd]
        have hwb : ((La.length : Int) == (a : Int) + 1) = true := by rw [hw]; simp
        have HPR := Lib.hid hpr
        have HW0 := Lib.hid hw
        clear hpr hd hw
        go_wp2_with (go_at_call 13; refine (c_IsPrime a _ ha ha').mono ?_; rw [HPR.out]; rintro e w' ⟨rfl, rfl⟩)
        go_ret
        exact ⟨by simp, HTW.out⟩
      · have hpr' : Pl.primeB a = false := by simpa using hpr
        have HPR := Lib.hid hpr'
        clear hpr hpr' hd
        go_wp2_with (go_at_call 13; refine (c_IsPrime a _ ha ha').mono ?_; rw [HPR.out]; rintro e w' ⟨rfl, rfl⟩)
        go_ret
        exact ⟨by simp, HTW.out⟩
  · have hcb : (E != 0) = true := by rw [bne_iff_ne]; exact hc
    have za := (cosL_bad (n := (a : Int)) (chi := Pl.kroP D) (by omega) (by omega) (by rw [HE.out]; exact hc)).symm.trans HLA.out
    have zb := (cosL_bad (n := (b : Int)) (chi := Pl.kroP D) (by omega) (by omega) (by rw [HE.out]; exact hc)).symm.trans HLB.out
    have zp := (cosL_bad (n := (p : Int)) (chi := Pl.kroP D) (by omega) (by omega) (by rw [HE.out]; exact hc)).symm.trans HLP.out
    have zab : ((La.length : Int) == 0) = true := by rw [← za]; rfl
    have zbb : ((Lb.length : Int) == 0) = true := by rw [← zb]; rfl
    have zpb : ((Lp.length : Int) == 0) = true := by rw [← zp]; rfl
    clear za zb zp hc
    go_wp2
    go_ret
    exact ⟨by simp, HTW.out⟩
theorem c_lawCounts (N k D a b : Int) (w : World) (hT : Tab w) :
    Calls Tryd.prog 4 #[spec N k D, .int .i64 a, .int .i64 b] w fun e w' => e = .returned (.bool true) ∧ Below w.heap.size w w' := by
  by_cases h : a < 1 ∨ b < 1 ∨ 64 < a ∨ 64 < b ∨ 64 < a * b ∨ Int.gcd a b ≠ 1
  · exact c_lawCounts_early N k D a b w hT h
  · obtain ⟨x, rfl⟩ := Int.eq_ofNat_of_zero_le (show 0 ≤ a by omega)
    obtain ⟨y, rfl⟩ := Int.eq_ofNat_of_zero_le (show 0 ≤ b by omega)
    have h1 : ¬ (64 : Int) < (x : Int) * (y : Int) := by omega
    rw [← Int.natCast_mul] at h1
    have h2 : Int.gcd (x : Int) (y : Int) = 1 := by omega
    exact c_lawCounts_main N k D x y w hT (by omega) (by omega) (by omega) (by omega) (by omega) h2
end Go.Proofs.YthikonjlgljikaaDoor
