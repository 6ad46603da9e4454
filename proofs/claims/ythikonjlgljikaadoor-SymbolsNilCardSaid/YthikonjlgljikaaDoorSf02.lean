/- Contracts of bigint: trimmed, signed, wide, word, sign, compare. -/
import Derived.Test.YthikonjlgljikaaDoorSf01
namespace Go.Proofs.YthikonjlgljikaaDoor
open Go.RowKit

theorem c_trimmed (p : Option Addr) (c n : Nat) (a : Nat → Nat) (w : World) (h : Dg w p c n a) (hn : n ≤ 70368744177664) :
    Calls Tryd.prog 85 #[.slice p n c] w fun e w' => (e = .returned (.slice p (nd (vf a n)) c) ∧ Nm w p c (vf a n)) ∧ w' = w := by
  have H := Lib.hid h
  have hcap := h.cap
  clear h
  go_enter Tryd.func85, Tryd.ntmps85
  go_wp2
  go_loop [0] (fun m => ∃ k : Nat, m = .slice p k c ∧ k ≤ n ∧ vf a k = vf a n) (fun m => (match m with | .slice _ k _ => k | _ => 0))
  case atStart => exact ⟨n, rfl, Nat.le_refl _, rfl⟩
  case round =>
    obtain ⟨k, rfl, hk, hv⟩ := hrel
    have HV := Lib.hid hv
    clear hv
    by_cases h0 : k = 0
    · subst h0
      have hd := (H.out.take hk).norm (.inl rfl)
      rw [HV.out] at hd
      have HD := Lib.hid hd
      clear hd
      go_wp2
      go_ret
      exact ⟨⟨by rw [HD.out.1]; rfl, HD.out.2⟩, rfl⟩
    · have hk0 : 0 < k := by omega
      obtain ⟨g, o, rfl, hg, hc⟩ := H.out.head (by omega)
      have c1 := hc (k - 1) (by omega)
      have e1 : ((k : Int) - 1).toNat = k - 1 := by omega
      clear hc
      by_cases hz : a (k - 1) = 0
      · have HZ := Lib.hid hz
        rw [hz] at c1
        clear hz
        go_wp2
        go_round
        case rel => exact ⟨k - 1, rfl, by omega, by
          rw [← HV.out]; obtain ⟨m, rfl⟩ : ∃ m, k = m + 1 := ⟨k - 1, by omega⟩
          rw [vf]; have := HZ.out; simp only [Nat.add_sub_cancel] at this ⊢; rw [this]; simp⟩
        case measure => simp only; omega
      · have hd := (H.out.take hk).norm (.inr hz)
        rw [HV.out] at hd
        have HD := Lib.hid hd
        have hzz : (((a (k - 1) : Nat) : Int) == 0) = false := beq_eq_false_iff_ne.2 (by omega)
        clear hd hz
        go_wp2
        go_ret
        exact ⟨⟨by rw [HD.out.1]; rfl, HD.out.2⟩, rfl⟩

theorem c_sign (n : Int) (w : World) :
    Calls Tryd.prog 108 #[.int .i64 n] w fun e w' => e = .returned (.int .i64 (Int.sign n)) ∧ w' = w := by
  go_enter Tryd.func108, Tryd.ntmps108
  go_wp2
  all_goals go_ret
  all_goals refine ⟨ret_i ?_, rfl⟩
  all_goals try simp only [decide_eq_true_eq, decide_eq_false_iff_not, Int.not_lt] at *
  all_goals first | exact (Int.sign_eq_neg_one_of_neg (by omega)).symm | exact (Int.sign_eq_one_of_pos (by omega)).symm | (rw [show n = 0 from by omega]; rfl)
theorem nd_one {v : Nat} (h0 : v ≠ 0) (h : v < 4294967296) : nd v = 1 := by
  have h1 := nd_pos.2 h0
  have h2 := (nd_le (v := v) (k := 1)).2 (by omega)
  omega
theorem nd_two {v : Nat} (h0 : 4294967296 ≤ v) (h : v < 18446744073709551616) : nd v = 2 := by
  have h2 := (nd_le (v := v) (k := 2)).2 (by omega)
  have h3 : ¬ nd v ≤ 1 := fun h4 => by have := nd_le.1 h4; omega
  omega
set_option maxRecDepth 100000 in
theorem c_wide (v : Nat) (w : World) (hv : v < 18446744073709551616) :
    Calls Tryd.prog 81 #[.int .u64 v] w fun e w' => RetN w' e v ∧ Below w.heap.size w w' := by
  go_enter Tryd.func81, Tryd.ntmps81
  by_cases h0 : v = 0
  · subst h0
    go_wp2
    go_ret
    exact ⟨⟨none, 0, rfl, Nm.nil _⟩, Below.refl _ _⟩
  · have h0b : ((v : Int) == 0) = false := beq_eq_false_iff_ne.2 (by omega)
    have hvi : (v : Int) < 18446744073709551616 := by omega
    have H0 := Lib.hid h0
    have HV := Lib.hid hv
    by_cases h1 : (v : Int) < 4294967296
    · have em : (v : Int) % 4294967296 = v := by omega
      clear hv h0
      go_wp2
      go_ret
      have hn := nd_one H0.out (by omega)
      refine ⟨⟨_, 1, by rw [hn]; rfl, ?_⟩, (Below.refl _ _).alloc (Nat.le_refl _) _⟩
      unfold Nm
      rw [hn]
      refine (Row.alloc w _ 1 (dg v) rfl (fun i hi => ?_) (fun i _ => dg_lt v i)).dg 1 (Nat.le_refl _)
      obtain rfl : i = 0 := by omega
      simp [dg]; omega
    · clear hv h0
      go_wp2
      go_ret
      have hn := nd_two (by omega) HV.out
      refine ⟨⟨_, 2, by rw [hn]; rfl, ?_⟩, (Below.refl _ _).alloc (Nat.le_refl _) _⟩
      unfold Nm
      rw [hn]
      refine (Row.alloc w _ 2 (dg v) rfl (fun i hi => ?_) (fun i _ => dg_lt v i)).dg 2 (Nat.le_refl _)
      rcases Nat.lt_or_ge i 1 with h2 | h2
      · obtain rfl : i = 0 := by omega
        simp [dg]
      · obtain rfl : i = 1 := by omega
        simp [dg]; omega

set_option maxRecDepth 100000 in
theorem c_word (p : Option Addr) (c n : Nat) (a : Nat → Nat) (w : World) (h : Dg w p c n a) (hn : n ≤ 2) :
    Calls Tryd.prog 110 #[.slice p n c] w fun e w' => e = .returned (.int .u64 (vf a n : Nat)) ∧ ∃ k, w' = w.drewN k := by
  by_cases h0 : n = 0
  · subst h0
    go_enter Tryd.func110, Tryd.ntmps110
    go_wp2
    go_ret
    exact ⟨rfl, 0, rfl⟩
  · obtain ⟨g, o, rfl, hg, hc⟩ := h.head (by omega)
    have l0 := h.lt 0 (by omega)
    have c0 := hc 0 (by omega)
    obtain ⟨x, hx⟩ : ∃ x, a 0 = x := ⟨_, rfl⟩
    rw [hx] at l0 c0
    rw [Nat.add_zero] at c0
    have hxi : (x : Int) < 4294967296 := by omega
    by_cases h1 : n = 1
    · subst h1
      have hv : vf a 1 = x := by simp [vf, hx]
      have HV := Lib.hid hv
      clear hc h hx l0 hv
      go_enter Tryd.func110, Tryd.ntmps110
      go_wp2
      go_ret
      exact ⟨ret_i (by rw [HV.out]), 0, rfl⟩
    · obtain rfl : n = 2 := by omega
      have l1 := h.lt 1 (by omega)
      have c1 := hc 1 (by omega)
      obtain ⟨y, hy⟩ : ∃ y, a 1 = y := ⟨_, rfl⟩
      rw [hy] at l1 c1
      have hyi : (y : Int) < 4294967296 := by omega
      have hv : vf a 2 = x + 4294967296 * y := by simp [vf, hx, hy]
      have HV := Lib.hid hv
      clear hc h hx hy l0 l1 hv
      go_enter Tryd.func110, Tryd.ntmps110
      go_wp2
      go_quiet (fail)
      go_wp2
      go_ret
      exact ⟨ret_i (by rw [HV.out]; exact or64 _ _ (by omega) (by omega)), nq, rfl⟩

theorem cmp_lt {u v : Nat} (h : u < v) : Int.sign ((u : Int) - v) = -1 := Int.sign_eq_neg_one_of_neg (by omega)
theorem cmp_gt {u v : Nat} (h : v < u) : Int.sign ((u : Int) - v) = 1 := Int.sign_eq_one_of_pos (by omega)
theorem cmp_nd {u v : Nat} (h : nd u ≠ nd v) : Int.sign ((nd u : Int) - nd v) = Int.sign ((u : Int) - v) := by
  rcases Nat.lt_or_gt_of_ne h with h1 | h1
  · rw [cmp_lt h1, cmp_lt (nd_cmp h1)]
  · rw [cmp_gt h1, cmp_gt (nd_cmp h1)]
set_option maxRecDepth 100000 in
theorem c_cmpEq (p : Option Addr) (c : Nat) (q : Option Addr) (d n : Nat) (a b : Nat → Nat) (s : Int) (w : World) (h1 : Dg w p c n a) (h2 : Dg w q d n b) (hn : n ≤ 70368744177664) (hs : Int.sign ((vf a n : Int) - (vf b n : Nat)) = s) :
    Calls Tryd.prog 102 #[.slice p n c, .slice q n d] w fun e w' => e = .returned (.int .i64 s) ∧ ∃ k, w' = w.drewN k := by
  have H1 := Lib.hid h1
  have H2 := Lib.hid h2
  have HS := Lib.hid hs
  clear h1 h2 hs
  go_enter Tryd.func102, Tryd.ntmps102
  go_wp2
  go_loopw [5] (fun i wr => ∃ k : Nat, k ≤ n ∧ i = .int .i64 ((k : Int) - 1) ∧ (∀ j, k ≤ j → j < n → a j = b j) ∧ ∃ m, wr = w.drewN m) (fun i _ => (intOf i + 1).toNat)
  case atStart => exact ⟨n, Nat.le_refl _, by go_num, fun j h1 h2 => by omega, 0, rfl⟩
  case round =>
    obtain ⟨k, hk, rfl, heq, mr, rfl⟩ := hrel
    have HE := Lib.hid heq
    clear heq
    by_cases h0 : k = 0
    · subst h0
      go_wp2
      go_ret
      refine ⟨ret_i ?_, mr, rfl⟩
      rw [← HS.out, vf_congr fun i hi => HE.out i (by omega) hi]; simp
    · have hk0 : 0 < k := by omega
      obtain ⟨g1, o1, rfl, hg1, hc1⟩ := H1.out.head (by omega)
      obtain ⟨g2, o2, rfl, hg2, hc2⟩ := H2.out.head (by omega)
      have c1 := hc1 (k - 1) (by omega)
      have c2 := hc2 (k - 1) (by omega)
      have e1 : ((k : Int) - 1).toNat = k - 1 := by omega
      have hki : (1 : Int) ≤ (k : Int) := by omega
      obtain ⟨x, hx⟩ : ∃ x, a (k - 1) = x := ⟨_, rfl⟩
      obtain ⟨y, hy⟩ : ∃ y, b (k - 1) = y := ⟨_, rfl⟩
      rw [hx] at c1
      rw [hy] at c2
      have HX := Lib.hid hx
      have HY := Lib.hid hy
      clear hc1 hc2 hx hy
      by_cases hxy : x = y
      · subst hxy
        go_wp2
        go_quiet (fail)
        go_wp2
        go_roundw
        case rel => exact ⟨k - 1, by omega, by go_num, fun j h1 h2 => by
          rcases Nat.lt_or_ge j k with h3 | h3
          · rw [show j = k - 1 from by omega, HX.out, HY.out]
          · exact HE.out j h3 h2, _, rfl⟩
        case measure => simp [intOf]; omega
      · have hxyb : ((x : Int) != (y : Int)) = true := by rw [bne_iff_ne]; omega
        have HL := Lib.hid hxy
        clear hxy
        by_cases hlt : (x : Int) < (y : Int)
        · have hv := vf_cmp (a := a) (b := b) (n := n) (i := k - 1) (by omega) H1.out.lt (fun j h1 h2 => HE.out j (by omega) h2) (by rw [HX.out, HY.out]; omega)
          have hsv := cmp_lt hv
          rw [HS.out] at hsv
          have HSV := Lib.hid hsv
          clear hv hsv
          go_wp2
          go_quiet (fail)
          go_wp2
          go_quiet (fail)
          go_wp2
          go_ret
          exact ⟨ret_i HSV.out.symm, _, by rw [dr2, dr2]⟩
        · have hv := vf_cmp (a := b) (b := a) (n := n) (i := k - 1) (by omega) H2.out.lt (fun j h1 h2 => (HE.out j (by omega) h2).symm) (by rw [HX.out, HY.out]; have := HL.out; omega)
          have hsv := cmp_gt hv
          rw [HS.out] at hsv
          have HSV := Lib.hid hsv
          clear hv hsv
          go_wp2
          go_quiet (fail)
          go_wp2
          go_quiet (fail)
          go_wp2
          go_ret
          exact ⟨ret_i HSV.out.symm, _, by rw [dr2, dr2]⟩
set_option maxRecDepth 100000 in
theorem c_compare (p : Option Addr) (c u : Nat) (q : Option Addr) (d v : Nat) (w : World) (h : Nm w p c u) (h' : Nm w q d v) (hu : nd u ≤ 70368744177664) (hv : nd v ≤ 70368744177664) :
    Calls Tryd.prog 102 #[.slice p (nd u) c, .slice q (nd v) d] w fun e w' => e = .returned (.int .i64 (Int.sign ((u : Int) - v))) ∧ ∃ k, w' = w.drewN k := by
  by_cases hne : nd v = nd u
  · have h2 : Dg w q d (nd u) (dg v) := by rw [← hne]; exact h'
    have hvv : vf (dg v) (nd u) = v := by rw [← hne]; exact vf_nd v
    rw [hne]
    exact c_cmpEq p c q d (nd u) (dg u) (dg v) _ w h h2 hu (by rw [vf_nd, hvv])
  · have hs := cmp_nd (Ne.symm hne)
    have hneb : ((nd u : Int) != (nd v : Int)) = true := by rw [bne_iff_ne]; omega
    generalize Int.sign ((u : Int) - v) = s at *
    generalize nd u = n at *
    generalize nd v = m at *
    have HS := Lib.hid hs
    clear h h' hs hne
    go_enter Tryd.func102, Tryd.ntmps102
    go_wp2_with (go_at_call 108; refine (c_sign _ _).mono ?_; rw [HS.out]; rintro e w' ⟨rfl, rfl⟩)
    go_ret
    exact ⟨rfl, 0, rfl⟩
end Go.Proofs.YthikonjlgljikaaDoor
