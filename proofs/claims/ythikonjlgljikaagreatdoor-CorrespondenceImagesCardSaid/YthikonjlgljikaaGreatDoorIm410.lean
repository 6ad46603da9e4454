/- Contracts of bigint: trimmed, signed, wide, word, sign, compare. Contracts of math/bits.Add32, Sub32 and of bigint's plus and less. Contract of bigint's times. Contracts of math/bits.Div32, Len32, LeadingZeros32 and of bigint's short. Contracts of bigint's shifted and unshifted. -/
import Derived.Test.YthikonjlgljikaaGreatDoorIm409
import Derived.Laws.BitsAllLaws
import Derived.Lib.BitFns
import Derived.Lib.Strings
import Derived.Lib.Slices
import Derived.Lib.Small
import Derived.Lib.Walk
namespace Go.Proofs.YthikonjlgljikaaGreatDoor
open Go.RowKit

theorem c_trimmed (p : Option Addr) (c n : Nat) (a : Nat → Nat) (w : World) (h : Dg w p c n a) (hn : n ≤ 70368744177664) :
    Calls Tryz.prog 124 #[.slice p n c] w fun e w' => (e = .returned (.slice p (nd (vf a n)) c) ∧ Nm w p c (vf a n)) ∧ w' = w := by
  have H := Lib.hid h
  have hcap := h.cap
  clear h
  go_enter Tryz.func124, Tryz.ntmps124
  go_wp2
  go_loop [0] (fun m => ∃ k : Nat, m = .slice p k c ∧ k ≤ n ∧ vf a k = vf a n) (fun m => (match m with | .slice _ k _ => k | _ => 0))
  case atStart => exact ⟨n, rfl, Nat.le_refl _, rfl⟩
  case round =>
    obtain ⟨k, rfl, hk, hv⟩ := hrel
    have HV := Lib.hid hv
    clear hv
    by_cases h0 : k = 0
    · subst h0
      have hd := (H.out.take hk).norm (.inl rfl)
      rw [HV.out] at hd
      have HD := Lib.hid hd
      clear hd
      go_wp2
      go_ret
      exact ⟨⟨by rw [HD.out.1]; rfl, HD.out.2⟩, rfl⟩
    · have hk0 : 0 < k := by omega
      obtain ⟨g, o, rfl, hg, hc⟩ := H.out.head (by omega)
      have c1 := hc (k - 1) (by omega)
      have e1 : ((k : Int) - 1).toNat = k - 1 := by omega
      clear hc
      by_cases hz : a (k - 1) = 0
      · have HZ := Lib.hid hz
        rw [hz] at c1
        clear hz
        go_wp2
        go_round
        case rel => exact ⟨k - 1, rfl, by omega, by
          rw [← HV.out]; obtain ⟨m, rfl⟩ : ∃ m, k = m + 1 := ⟨k - 1, by omega⟩
          rw [vf]; have := HZ.out; simp only [Nat.add_sub_cancel] at this ⊢; rw [this]; simp⟩
        case measure => simp only; omega
      · have hd := (H.out.take hk).norm (.inr hz)
        rw [HV.out] at hd
        have HD := Lib.hid hd
        have hzz : (((a (k - 1) : Nat) : Int) == 0) = false := beq_eq_false_iff_ne.2 (by omega)
        clear hd hz
        go_wp2
        go_ret
        exact ⟨⟨by rw [HD.out.1]; rfl, HD.out.2⟩, rfl⟩

theorem c_sign (n : Int) (w : World) :
    Calls Tryz.prog 211 #[.int .i64 n] w fun e w' => e = .returned (.int .i64 (Int.sign n)) ∧ w' = w := by
  go_enter Tryz.func211, Tryz.ntmps211
  go_wp2
  all_goals go_ret
  all_goals refine ⟨ret_i ?_, rfl⟩
  all_goals try simp only [decide_eq_true_eq, decide_eq_false_iff_not, Int.not_lt] at *
  all_goals first | exact (Int.sign_eq_neg_one_of_neg (by omega)).symm | exact (Int.sign_eq_one_of_pos (by omega)).symm | (rw [show n = 0 from by omega]; rfl)
theorem nd_one {v : Nat} (h0 : v ≠ 0) (h : v < 4294967296) : nd v = 1 := by
  have h1 := nd_pos.2 h0
  have h2 := (nd_le (v := v) (k := 1)).2 (by omega)
  omega
theorem nd_two {v : Nat} (h0 : 4294967296 ≤ v) (h : v < 18446744073709551616) : nd v = 2 := by
  have h2 := (nd_le (v := v) (k := 2)).2 (by omega)
  have h3 : ¬ nd v ≤ 1 := fun h4 => by have := nd_le.1 h4; omega
  omega
set_option maxRecDepth 100000 in
theorem c_wide (v : Nat) (w : World) (hv : v < 18446744073709551616) :
    Calls Tryz.prog 120 #[.int .u64 v] w fun e w' => RetN w' e v ∧ Below w.heap.size w w' := by
  go_enter Tryz.func120, Tryz.ntmps120
  by_cases h0 : v = 0
  · subst h0
    go_wp2
    go_ret
    exact ⟨⟨none, 0, rfl, Nm.nil _⟩, Below.refl _ _⟩
  · have h0b : ((v : Int) == 0) = false := beq_eq_false_iff_ne.2 (by omega)
    have hvi : (v : Int) < 18446744073709551616 := by omega
    have H0 := Lib.hid h0
    have HV := Lib.hid hv
    by_cases h1 : (v : Int) < 4294967296
    · have em : (v : Int) % 4294967296 = v := by omega
      clear hv h0
      go_wp2
      go_ret
      have hn := nd_one H0.out (by omega)
      refine ⟨⟨_, 1, by rw [hn]; rfl, ?_⟩, (Below.refl _ _).alloc (Nat.le_refl _) _⟩
      unfold Nm
      rw [hn]
      refine (Row.alloc w _ 1 (dg v) rfl (fun i hi => ?_) (fun i _ => dg_lt v i)).dg 1 (Nat.le_refl _)
      obtain rfl : i = 0 := by omega
      simp [dg]; omega
    · clear hv h0
      go_wp2
      go_ret
      have hn := nd_two (by omega) HV.out
      refine ⟨⟨_, 2, by rw [hn]; rfl, ?_⟩, (Below.refl _ _).alloc (Nat.le_refl _) _⟩
      unfold Nm
      rw [hn]
      refine (Row.alloc w _ 2 (dg v) rfl (fun i hi => ?_) (fun i _ => dg_lt v i)).dg 2 (Nat.le_refl _)
      rcases Nat.lt_or_ge i 1 with h2 | h2
      · obtain rfl : i = 0 := by omega
        simp [dg]
      · obtain rfl : i = 1 := by omega
        simp [dg]; omega

set_option maxRecDepth 100000 in
theorem c_word (p : Option Addr) (c n : Nat) (a : Nat → Nat) (w : World) (h : Dg w p c n a) (hn : n ≤ 2) :
    Calls Tryz.prog 213 #[.slice p n c] w fun e w' => e = .returned (.int .u64 (vf a n : Nat)) ∧ ∃ k, w' = w.drewN k := by
  by_cases h0 : n = 0
  · subst h0
    go_enter Tryz.func213, Tryz.ntmps213
    go_wp2
    go_ret
    exact ⟨rfl, 0, rfl⟩
  · obtain ⟨g, o, rfl, hg, hc⟩ := h.head (by omega)
    have l0 := h.lt 0 (by omega)
    have c0 := hc 0 (by omega)
    obtain ⟨x, hx⟩ : ∃ x, a 0 = x := ⟨_, rfl⟩
    rw [hx] at l0 c0
    rw [Nat.add_zero] at c0
    have hxi : (x : Int) < 4294967296 := by omega
    by_cases h1 : n = 1
    · subst h1
      have hv : vf a 1 = x := by simp [vf, hx]
      have HV := Lib.hid hv
      clear hc h hx l0 hv
      go_enter Tryz.func213, Tryz.ntmps213
      go_wp2
      go_ret
      exact ⟨ret_i (by rw [HV.out]), 0, rfl⟩
    · obtain rfl : n = 2 := by omega
      have l1 := h.lt 1 (by omega)
      have c1 := hc 1 (by omega)
      obtain ⟨y, hy⟩ : ∃ y, a 1 = y := ⟨_, rfl⟩
      rw [hy] at l1 c1
      have hyi : (y : Int) < 4294967296 := by omega
      have hv : vf a 2 = x + 4294967296 * y := by simp [vf, hx, hy]
      have HV := Lib.hid hv
      clear hc h hx hy l0 l1 hv
      go_enter Tryz.func213, Tryz.ntmps213
      go_wp2
      go_quiet (fail)
      go_wp2
      go_ret
      exact ⟨ret_i (by rw [HV.out]; exact or64 _ _ (by omega) (by omega)), nq, rfl⟩

theorem cmp_lt {u v : Nat} (h : u < v) : Int.sign ((u : Int) - v) = -1 := Int.sign_eq_neg_one_of_neg (by omega)
theorem cmp_gt {u v : Nat} (h : v < u) : Int.sign ((u : Int) - v) = 1 := Int.sign_eq_one_of_pos (by omega)
theorem cmp_nd {u v : Nat} (h : nd u ≠ nd v) : Int.sign ((nd u : Int) - nd v) = Int.sign ((u : Int) - v) := by
  rcases Nat.lt_or_gt_of_ne h with h1 | h1
  · rw [cmp_lt h1, cmp_lt (nd_cmp h1)]
  · rw [cmp_gt h1, cmp_gt (nd_cmp h1)]
set_option maxRecDepth 100000 in
theorem c_cmpEq (p : Option Addr) (c : Nat) (q : Option Addr) (d n : Nat) (a b : Nat → Nat) (s : Int) (w : World) (h1 : Dg w p c n a) (h2 : Dg w q d n b) (hn : n ≤ 70368744177664) (hs : Int.sign ((vf a n : Int) - (vf b n : Nat)) = s) :
    Calls Tryz.prog 181 #[.slice p n c, .slice q n d] w fun e w' => e = .returned (.int .i64 s) ∧ ∃ k, w' = w.drewN k := by
  have H1 := Lib.hid h1
  have H2 := Lib.hid h2
  have HS := Lib.hid hs
  clear h1 h2 hs
  go_enter Tryz.func181, Tryz.ntmps181
  go_wp2
  go_loopw [5] (fun i wr => ∃ k : Nat, k ≤ n ∧ i = .int .i64 ((k : Int) - 1) ∧ (∀ j, k ≤ j → j < n → a j = b j) ∧ ∃ m, wr = w.drewN m) (fun i _ => (intOf i + 1).toNat)
  case atStart => exact ⟨n, Nat.le_refl _, by go_num, fun j h1 h2 => by omega, 0, rfl⟩
  case round =>
    obtain ⟨k, hk, rfl, heq, mr, rfl⟩ := hrel
    have HE := Lib.hid heq
    clear heq
    by_cases h0 : k = 0
    · subst h0
      go_wp2
      go_ret
      refine ⟨ret_i ?_, mr, rfl⟩
      rw [← HS.out, vf_congr fun i hi => HE.out i (by omega) hi]; simp
    · have hk0 : 0 < k := by omega
      obtain ⟨g1, o1, rfl, hg1, hc1⟩ := H1.out.head (by omega)
      obtain ⟨g2, o2, rfl, hg2, hc2⟩ := H2.out.head (by omega)
      have c1 := hc1 (k - 1) (by omega)
      have c2 := hc2 (k - 1) (by omega)
      have e1 : ((k : Int) - 1).toNat = k - 1 := by omega
      have hki : (1 : Int) ≤ (k : Int) := by omega
      obtain ⟨x, hx⟩ : ∃ x, a (k - 1) = x := ⟨_, rfl⟩
      obtain ⟨y, hy⟩ : ∃ y, b (k - 1) = y := ⟨_, rfl⟩
      rw [hx] at c1
      rw [hy] at c2
      have HX := Lib.hid hx
      have HY := Lib.hid hy
      clear hc1 hc2 hx hy
      by_cases hxy : x = y
      · subst hxy
        go_wp2
        go_quiet (fail)
        go_wp2
        go_roundw
        case rel => exact ⟨k - 1, by omega, by go_num, fun j h1 h2 => by
          rcases Nat.lt_or_ge j k with h3 | h3
          · rw [show j = k - 1 from by omega, HX.out, HY.out]
          · exact HE.out j h3 h2, _, rfl⟩
        case measure => simp [intOf]; omega
      · have hxyb : ((x : Int) != (y : Int)) = true := by rw [bne_iff_ne]; omega
        have HL := Lib.hid hxy
        clear hxy
        by_cases hlt : (x : Int) < (y : Int)
        · have hv := vf_cmp (a := a) (b := b) (n := n) (i := k - 1) (by omega) H1.out.lt (fun j h1 h2 => HE.out j (by omega) h2) (by rw [HX.out, HY.out]; omega)
          have hsv := cmp_lt hv
          rw [HS.out] at hsv
          have HSV := Lib.hid hsv
          clear hv hsv
          go_wp2
          go_quiet (fail)
          go_wp2
          go_quiet (fail)
          go_wp2
          go_ret
          exact ⟨ret_i HSV.out.symm, _, by rw [dr2, dr2]⟩
        · have hv := vf_cmp (a := b) (b := a) (n := n) (i := k - 1) (by omega) H2.out.lt (fun j h1 h2 => (HE.out j (by omega) h2).symm) (by rw [HX.out, HY.out]; have := HL.out; omega)
          have hsv := cmp_gt hv
          rw [HS.out] at hsv
          have HSV := Lib.hid hsv
          clear hv hsv
          go_wp2
          go_quiet (fail)
          go_wp2
          go_quiet (fail)
          go_wp2
          go_ret
          exact ⟨ret_i HSV.out.symm, _, by rw [dr2, dr2]⟩
set_option maxRecDepth 100000 in
theorem c_compare (p : Option Addr) (c u : Nat) (q : Option Addr) (d v : Nat) (w : World) (h : Nm w p c u) (h' : Nm w q d v) (hu : nd u ≤ 70368744177664) (hv : nd v ≤ 70368744177664) :
    Calls Tryz.prog 181 #[.slice p (nd u) c, .slice q (nd v) d] w fun e w' => e = .returned (.int .i64 (Int.sign ((u : Int) - v))) ∧ ∃ k, w' = w.drewN k := by
  by_cases hne : nd v = nd u
  · have h2 : Dg w q d (nd u) (dg v) := by rw [← hne]; exact h'
    have hvv : vf (dg v) (nd u) = v := by rw [← hne]; exact vf_nd v
    rw [hne]
    exact c_cmpEq p c q d (nd u) (dg u) (dg v) _ w h h2 hu (by rw [vf_nd, hvv])
  · have hs := cmp_nd (Ne.symm hne)
    have hneb : ((nd u : Int) != (nd v : Int)) = true := by rw [bne_iff_ne]; omega
    generalize Int.sign ((u : Int) - v) = s at *
    generalize nd u = n at *
    generalize nd v = m at *
    have HS := Lib.hid hs
    clear h h' hs hne
    go_enter Tryz.func181, Tryz.ntmps181
    go_wp2_with (go_at_call 211; refine (c_sign _ _).mono ?_; rw [HS.out]; rintro e w' ⟨rfl, rfl⟩)
    go_ret
    exact ⟨rfl, 0, rfl⟩
end Go.Proofs.YthikonjlgljikaaGreatDoor
namespace Go.Proofs.YthikonjlgljikaaGreatDoor
open Go.RowKit

set_option maxRecDepth 100000 in
theorem c_Add32 (x y z : Nat) (w : World) (hx : (x : Int) < 4294967296) (hy : (y : Int) < 4294967296) (hz : (z : Int) < 4294967296) :
    Calls Tryz.prog 210 #[.int .u32 x, .int .u32 y, .int .u32 z] w fun e w' => e = .returned (.tuple #[.int .u32 ((x + y + z) % 4294967296 : Nat), .int .u32 ((x + y + z) / 4294967296 : Nat)]) ∧ w' = w := by
  have em : ((x : Int) + (y : Int) + (z : Int)) / 4294967296 % 4294967296 = ((x : Int) + (y : Int) + (z : Int)) / 4294967296 := by omega
  go_enter Tryz.func210, Tryz.ntmps210
  go_wp2
  go_ret2
  exact ⟨by simp, rfl⟩
theorem top_bit (n : Nat) (h : n < 4294967296) : n / 2147483648 = if n.testBit 31 then 1 else 0 := by
  rw [Nat.testBit_eq_decide_div_mod_eq]
  have e : (2 : Nat) ^ 31 = 2147483648 := by decide
  rw [e]
  simp only [decide_eq_true_eq]
  split <;> omega
theorem bit_top (n : Nat) (h : n < 4294967296) : n.testBit 31 = decide (2147483648 ≤ n) := by
  rw [Nat.testBit_eq_decide_div_mod_eq]
  have e : (2 : Nat) ^ 31 = 2147483648 := by decide
  rw [e]
  rw [decide_eq_decide]
  omega
theorem borrowN (x y z d : Nat) (hx : x < 4294967296) (hy : y < 4294967296) (hz : z ≤ 1) (hd : (d : Int) = ((x : Int) - y - z) % 4294967296) :
    (((4294967295 ^^^ x) &&& y) ||| ((4294967295 ^^^ (x ^^^ y)) &&& d)) / 2147483648 = if x < y + z then 1 else 0 := by
  have hd2 : d < 4294967296 := by omega
  have e : (4294967296 : Nat) = 2 ^ 32 := by decide
  have h1 : ((4294967295 ^^^ x) &&& y) < 2 ^ 32 := Nat.and_lt_two_pow _ (by omega)
  have h2 : ((4294967295 ^^^ (x ^^^ y)) &&& d) < 2 ^ 32 := Nat.and_lt_two_pow _ (by omega)
  have h3 := Nat.or_lt_two_pow h1 h2
  rw [top_bit _ (by omega), Nat.testBit_or, Nat.testBit_and, Nat.testBit_and, Nat.testBit_xor, Nat.testBit_xor, Nat.testBit_xor, bit_top x hx, bit_top y hy, bit_top d hd2, show (4294967295 : Nat).testBit 31 = true from by decide]
  clear h1 h2 h3 e
  by_cases a1 : 2147483648 ≤ x <;> by_cases a2 : 2147483648 ≤ y <;> by_cases a3 : 2147483648 ≤ d <;> simp only [a1, a2, a3, decide_true, decide_false, Bool.xor_true, Bool.xor_false, Bool.not_true, Bool.not_false, Bool.and_true, Bool.and_false, Bool.or_true, Bool.or_false, if_true, Bool.false_eq_true, if_false] <;> split <;> first | rfl | (exfalso; omega) | omega
theorem borrowI (x y z : Nat) (hx : x < 4294967296) (hy : y < 4294967296) (hz : z ≤ 1) :
    bits .or .u32 (bits .and .u32 (bits .xor .u32 (if IntKind.u32.signed = true then -1 else IntKind.u32.max) (x : Int)) (y : Int)) (bits .and .u32 (bits .xor .u32 (if IntKind.u32.signed = true then -1 else IntKind.u32.max) (bits .xor .u32 (x : Int) (y : Int))) (((x : Int) - y - z) % 4294967296)) / 2147483648 = if x < y + z then 1 else 0 := by
  obtain ⟨d, hd⟩ : ∃ d : Nat, (d : Int) = ((x : Int) - y - z) % 4294967296 := ⟨(((x : Int) - y - z) % 4294967296).toNat, by omega⟩
  have e1 : (if IntKind.u32.signed = true then (-1 : Int) else IntKind.u32.max) = ((4294967295 : Nat) : Int) := by decide
  have e : (4294967296 : Nat) = 2 ^ 32 := by decide
  have h1 : x ^^^ y < 4294967296 := by rw [e]; exact Nat.xor_lt_two_pow (by omega) (by omega)
  have h2 : 4294967295 ^^^ x < 4294967296 := by rw [e]; exact Nat.xor_lt_two_pow (by omega) (by omega)
  have h3 : 4294967295 ^^^ (x ^^^ y) < 4294967296 := by rw [e]; exact Nat.xor_lt_two_pow (by omega) (by omega)
  have h4 : (4294967295 ^^^ x) &&& y < 4294967296 := by rw [e]; exact Nat.and_lt_two_pow _ (by omega)
  have h5 : (4294967295 ^^^ (x ^^^ y)) &&& d < 4294967296 := by rw [e]; exact Nat.and_lt_two_pow _ (by omega)
  rw [← hd, e1, u32_xor_nat _ _ (by omega) hx, u32_xor_nat _ _ hx hy, u32_xor_nat _ _ (by omega) h1, u32_and_nat _ _ h2 hy, u32_and_nat _ _ h3 (by omega), u32_or_nat _ _ h4 h5]
  have := borrowN x y z d hx hy hz hd
  have e2 := congrArg (Int.ofNat) this
  split at e2
  · rename_i hh; rw [if_pos hh]; simpa using e2
  · rename_i hh; rw [if_neg hh]; simpa using e2
set_option maxRecDepth 100000 in
theorem c_Sub32 (x y z : Nat) (w : World) (hx : (x : Int) < 4294967296) (hy : (y : Int) < 4294967296) (hz : (z : Int) ≤ 1) :
    Calls Tryz.prog 212 #[.int .u32 x, .int .u32 y, .int .u32 z] w fun e w' => e = .returned (.tuple #[.int .u32 (((x : Int) - y - z) % 4294967296), .int .u32 (if x < y + z then 1 else 0)]) ∧ w' = w := by
  have hb := borrowI x y z (by omega) (by omega) (by omega)
  obtain ⟨b, hbb⟩ : ∃ b : Int, (if x < y + z then (1 : Int) else 0) = b := ⟨_, rfl⟩
  rw [hbb] at hb ⊢
  have HB := Lib.hid hb
  have e1 : ((((x : Int) - y) % 4294967296 - z) % 4294967296) = ((x : Int) - y - z) % 4294967296 := by omega
  clear hb hbb
  go_enter Tryz.func212, Tryz.ntmps212
  go_wp
  go_ret2
  refine ⟨?_, rfl⟩
  rw [← HB.out]
  first | rfl | (rw [← e1]; rfl) | (simp [e1]; done)

/-- b, read as if it had as many digits as one likes. -/
def ext (b : Nat → Nat) (m : Nat) : Nat → Nat := fun j => if j < m then b j else 0
theorem ext_vf (b : Nat → Nat) {m n : Nat} (h : m ≤ n) : vf (ext b m) n = vf b m := by
  rw [vf_tail h (fun i h1 _ => by unfold ext; rw [if_neg (by omega)])]
  exact vf_congr fun i hi => by unfold ext; rw [if_pos hi]
/-- The state of an addition: i digits are done. -/
def PlusAt (w : World) (g : Nat) (n1 i : Nat) (t : Nat) (cy : Nat) : Prop := ∃ r, Row w g n1 r ∧ vf r i + 4294967296 ^ i * cy = t
theorem plus_step {w : World} {g n1 i cy x y s cz : Nat} {a b r : Nat → Nat} (hrow : Row w g n1 r) (hval : vf r i + 4294967296 ^ i * cy = vf a i + vf b i) (hx : a i = x) (hy : b i = y) (hs : (x + y + cy) % 4294967296 = s) (hcz : (x + y + cy) / 4294967296 = cz) :
    PlusAt (w.setCell ⟨g, i, none⟩ (.int .u32 s)) g n1 (i + 1) (vf a (i + 1) + vf b (i + 1)) cz := by
  refine ⟨_, hrow.set i s (by omega), ?_⟩
  rw [vf, vf, vf, vf_upd_ge (Nat.le_refl _), show upd r i s i = s from by simp [upd], pow_succ', hx, hy]
  have h : x + y + cy = s + 4294967296 * cz := by omega
  have h2 := congrArg (4294967296 ^ i * ·) h
  simp only [Nat.mul_add] at h2
  rw [Nat.mul_left_comm] at h2
  rw [Nat.mul_assoc]
  omega
set_option maxRecDepth 100000 in
theorem c_plus (p : Option Addr) (c n : Nat) (a : Nat → Nat) (q : Option Addr) (d m : Nat) (b : Nat → Nat) (w : World) (h1 : Dg w p c n a) (h2 : Dg w q d m b) (hn : n ≤ 70368744177660) (hm : m ≤ 70368744177660) :
    Calls Tryz.prog 180 #[.slice p n c, .slice q m d] w fun e w' => RetD w' e (max n m + 1) (vf a n + vf b m) ∧ Below w.heap.size w w' := by
  obtain ⟨T, hT⟩ : ∃ T, vf a n + vf b m = T := ⟨_, rfl⟩
  obtain ⟨M, hM⟩ : ∃ M, max n m + 1 = M := ⟨_, rfl⟩
  rw [hT, hM]
  have H1 := Lib.hid h1
  have H2 := Lib.hid h2
  have HT := Lib.hid hT
  have HM := Lib.hid hM
  clear h1 h2 hT hM
  go_enter Tryz.func180, Tryz.ntmps180
  go_upto_if 14 with (fail)
  go_cut [0, 1] (fun v0 v1 wc => wc = w ∧ ∃ p c n a q d m b, v0 = .slice p n c ∧ v1 = .slice q m d ∧ Dg w p c n a ∧ Dg w q d m b ∧ m ≤ n ∧ n ≤ 70368744177660 ∧ vf a n + vf b m = T ∧ n + 1 = M)
  case first =>
    by_cases hlt : (n : Int) < (m : Int)
    · have hx : m + 1 = M := by have := HM.out; omega
      have HX := Lib.hid hx
      clear hx
      go_wp2
      go_meet
      case rel => exact ⟨rfl, q, d, m, b, p, c, n, a, rfl, rfl, H2.out, H1.out, by omega, by omega, by rw [Nat.add_comm]; exact HT.out, HX.out⟩
    · have hx : n + 1 = M := by have := HM.out; omega
      have HX := Lib.hid hx
      clear hx
      go_wp2
      go_meet
      case rel => exact ⟨rfl, p, c, n, a, q, d, m, b, rfl, rfl, H1.out, H2.out, by omega, by omega, HT.out, HX.out⟩
  case rest =>
    clear H1 H2 HT HM hn hm p c n a q d m b
    obtain ⟨rfl, p, c, n, a, q, d, m, b, rfl, rfl, h1, h2, hmn, hn, hT, hM⟩ := hcut
    have hmk : ∀ w, (Instr.makeSlice 31 (.int .i64 ((n : Int) + 1)) (.int .i64 ((n : Int) + 1))).run Tryz.prog w = .ok (.slice (some ⟨w.heap.size, 0, none⟩) (n + 1) (n + 1)) (w.alloc (.cells (madeCells #[.int .u32 0] (n + 1)) 187)) := make32 (n + 1) (by omega)
    obtain ⟨B, hB⟩ : ∃ B, B = wc.heap.size := ⟨_, rfl⟩
    have hrow := Row.made wc (n + 1)
    have H1 := Lib.hid h1
    have H2 := Lib.hid h2
    have HT := Lib.hid hT
    have HM := Lib.hid hM
    have HR := Lib.hid hrow
    clear h1 h2 hT hM hrow
    go_wp2
    obtain ⟨wb, hwb⟩ : ∃ wb, wc.alloc (.cells (madeCells #[.int .u32 0] (n + 1)) 187) = wb := ⟨_, rfl⟩
    rw [hwb]
    have hbel : Below wc.heap.size wc wb := by rw [← hwb]; exact (Below.refl _ _).alloc (Nat.le_refl _) _
    rw [hwb] at HR
    have HB0 := Lib.hid hbel
    clear hwb hbel
    go_loopw [6, 23] (fun v6 v23 wr => ∃ i cy : Nat, i ≤ n ∧ v6 = .int .u32 cy ∧ v23 = .int .i64 i ∧ (cy : Int) ≤ 1 ∧ PlusAt wr wc.heap.size (n + 1) i (vf a i + vf (ext b m) i) cy ∧ Below wc.heap.size wc wr) (fun _ v23 _ => n - (intOf v23).toNat)
    case atStart => exact ⟨0, 0, Nat.zero_le _, rfl, rfl, by decide, ⟨_, HR.out, rfl⟩, HB0.out⟩
    case round =>
      obtain ⟨i, cy, hi, rfl, rfl, hcy, ⟨r, hrow, hval⟩, hb⟩ := hrel
      have HB := Lib.hid hb
      clear hb
      have hst : ∃ u, wr.cell? ⟨wc.heap.size, i, none⟩ = some u := ⟨_, hrow.1.cell (by omega)⟩
      obtain ⟨u, hst⟩ := hst
      have hfz : wr.frozen? ⟨wc.heap.size, i, none⟩ = false := hrow.1.frozen i
      by_cases hlt : (i : Int) < (n : Int)
      · obtain ⟨g1, o1, rfl, hg1, hc1⟩ := H1.out.head (by omega)
        have c1 : wr.cell? ⟨g1, o1 + i, none⟩ = _ := (HB.out.cell (p := ⟨g1, o1 + i, none⟩) hg1).trans (hc1 i (by omega))
        have hxl : ((a i : Nat) : Int) < 4294967296 := by have := H1.out.lt i (by omega); omega
        obtain ⟨x, hx⟩ : ∃ x, a i = x := ⟨_, rfl⟩
        rw [hx] at c1 hxl
        clear hc1
        by_cases hmi : (i : Int) < (m : Int)
        · obtain ⟨g2, o2, rfl, hg2, hc2⟩ := H2.out.head (by omega)
          have c2 : wr.cell? ⟨g2, o2 + i, none⟩ = _ := (HB.out.cell (p := ⟨g2, o2 + i, none⟩) hg2).trans (hc2 i (by omega))
          have hyl : ((b i : Nat) : Int) < 4294967296 := by have := H2.out.lt i (by omega); omega
          obtain ⟨y, hyb⟩ : ∃ y, b i = y := ⟨_, rfl⟩
          have hy : ext b m i = y := by unfold ext; rw [if_pos (by omega)]; exact hyb
          rw [hyb] at c2 hyl
          clear hc2 hyb
          have HC := c_Add32 x y cy wr (by omega) (by omega) (by omega)
          obtain ⟨s, hs⟩ : ∃ s, (x + y + cy) % 4294967296 = s := ⟨_, rfl⟩
          obtain ⟨cz, hcz⟩ : ∃ cz, (x + y + cy) / 4294967296 = cz := ⟨_, rfl⟩
          rw [hs, hcz] at HC
          have hsl : (s : Int) < 4294967296 := by omega
          have hcl : (cz : Int) ≤ 1 := by omega
          have hnew := plus_step hrow hval hx hy hs hcz
          have HN := Lib.hid hnew
          have HC := Lib.hid HC
          clear hnew hs hcz hx hy hval hrow
          go_wp2_with (go_at_call 210; refine HC.out.mono ?_; rintro e w' ⟨rfl, rfl⟩)
          go_roundw
          case rel => exact ⟨i + 1, cz, by omega, rfl, by go_num, hcl, HN.out, HB.out.setCell (Nat.le_refl _) _⟩
          case measure => simp [intOf]; omega
        · obtain ⟨y, hyb⟩ : ∃ y : Nat, 0 = y := ⟨_, rfl⟩
          have hy : ext b m i = y := by unfold ext; rw [if_neg (by omega)]; exact hyb
          subst hyb
          have hyl : ((0 : Nat) : Int) < 4294967296 := by decide
          have HC := c_Add32 x 0 cy wr (by omega) (by omega) (by omega)
          obtain ⟨s, hs⟩ : ∃ s, (x + 0 + cy) % 4294967296 = s := ⟨_, rfl⟩
          obtain ⟨cz, hcz⟩ : ∃ cz, (x + 0 + cy) / 4294967296 = cz := ⟨_, rfl⟩
          rw [hs, hcz] at HC
          have hsl : (s : Int) < 4294967296 := by omega
          have hcl : (cz : Int) ≤ 1 := by omega
          have hnew := plus_step hrow hval hx hy hs hcz
          have HN := Lib.hid hnew
          have HC := Lib.hid HC
          clear hnew hs hcz hx hy hval hrow
          go_wp2_with (go_at_call 210; refine HC.out.mono ?_; rintro e w' ⟨rfl, rfl⟩)
          go_roundw
          case rel => exact ⟨i + 1, cz, by omega, rfl, by go_num, hcl, HN.out, HB.out.setCell (Nat.le_refl _) _⟩
          case measure => simp [intOf]; omega
      · obtain rfl : i = n := by omega
        have hfin : Row (wr.setCell ⟨wc.heap.size, i, none⟩ (.int .u32 cy)) wc.heap.size (i + 1) (upd r i cy) := hrow.set i cy (by omega)
        have hsum : vf (upd r i cy) (i + 1) = T := by
          rw [vf, vf_upd_ge (Nat.le_refl _), show upd r i cy i = cy from by simp [upd], hval, ext_vf b hmn]
          exact HT.out
        have HF := Lib.hid hfin
        have HS := Lib.hid hsum
        have hM := HM.out
        clear hfin hsum hval hrow hcy
        go_wp2
        go_ret
        exact ⟨⟨_, _, _, by rw [← hM]; rfl, by rw [← hM]; exact HF.out.dg (i + 1) (Nat.le_refl _), by rw [← hM]; exact HS.out⟩, HB.out.setCell (Nat.le_refl _) _⟩

/-- The state of a subtraction: i digits are done. -/
def LessAt (w : World) (g n i : Nat) (t u : Nat) (cy : Nat) : Prop := ∃ r, Row w g n r ∧ vf r i + u = t + 4294967296 ^ i * cy
theorem less_step {w : World} {g n i cy x y : Nat} {s : Nat} {a b r : Nat → Nat} (hrow : Row w g n r) (hval : vf r i + vf b i = vf a i + 4294967296 ^ i * cy) (hx : a i = x) (hy : b i = y) (hxl : x < 4294967296) (hyl : y < 4294967296) (hcy : cy ≤ 1) (hs : (s : Int) = ((x : Int) - y - cy) % 4294967296) :
    LessAt (w.setCell ⟨g, i, none⟩ (.int .u32 s)) g n (i + 1) (vf a (i + 1)) (vf b (i + 1)) (if x < y + cy then 1 else 0) := by
  refine ⟨_, hrow.set i s (by omega), ?_⟩
  rw [vf, vf, vf, vf_upd_ge (Nat.le_refl _), show upd r i s i = s from by simp [upd], pow_succ', hx, hy]
  obtain ⟨k, hk⟩ : ∃ k, (if x < y + cy then 1 else 0) = k := ⟨_, rfl⟩
  rw [hk]
  have h : s + y + cy = x + 4294967296 * k := by split at hk <;> omega
  have h2 := congrArg (4294967296 ^ i * ·) h
  simp only [Nat.mul_add] at h2
  rw [Nat.mul_left_comm] at h2
  rw [Nat.mul_assoc]
  omega
set_option maxRecDepth 100000 in
theorem c_less (p : Option Addr) (c n : Nat) (a : Nat → Nat) (q : Option Addr) (d m : Nat) (b : Nat → Nat) (w : World) (h1 : Dg w p c n a) (h2 : Dg w q d m b) (hn : n ≤ 70368744177660) (hmn : m ≤ n) (hle : vf b m ≤ vf a n) :
    Calls Tryz.prog 182 #[.slice p n c, .slice q m d] w fun e w' => RetD w' e n (vf a n - vf b m) ∧ Below w.heap.size w w' := by
  have hmk : ∀ w, (Instr.makeSlice 31 (.int .i64 (n : Int)) (.int .i64 (n : Int))).run Tryz.prog w = .ok (.slice (some ⟨w.heap.size, 0, none⟩) n n) (w.alloc (.cells (madeCells #[.int .u32 0] n) 187)) := make32 n (by omega)
  have hrow := Row.made w n
  have H1 := Lib.hid h1
  have H2 := Lib.hid h2
  have HR := Lib.hid hrow
  have HL := Lib.hid hle
  clear h1 h2 hrow hle
  go_enter Tryz.func182, Tryz.ntmps182
  go_wp2
  obtain ⟨wb, hwb⟩ : ∃ wb, w.alloc (.cells (madeCells #[.int .u32 0] n) 187) = wb := ⟨_, rfl⟩
  rw [hwb]
  have hbel : Below w.heap.size w wb := by rw [← hwb]; exact (Below.refl _ _).alloc (Nat.le_refl _) _
  rw [hwb] at HR
  have HB0 := Lib.hid hbel
  clear hwb hbel
  go_loopw [6, 15] (fun v6 v23 wr => ∃ i cy : Nat, i ≤ n ∧ v6 = .int .u32 cy ∧ v23 = .int .i64 i ∧ (cy : Int) ≤ 1 ∧ LessAt wr w.heap.size n i (vf a i) (vf (ext b m) i) cy ∧ Below w.heap.size w wr) (fun _ v23 _ => n - (intOf v23).toNat)
  case atStart => exact ⟨0, 0, Nat.zero_le _, rfl, rfl, by decide, ⟨_, HR.out, rfl⟩, HB0.out⟩
  case round =>
    obtain ⟨i, cy, hi, rfl, rfl, hcy, ⟨r, hrow, hval⟩, hb⟩ := hrel
    have HB := Lib.hid hb
    clear hb
    by_cases hlt : (i : Int) < (n : Int)
    · have hst : ∃ u, wr.cell? ⟨w.heap.size, i, none⟩ = some u := ⟨_, hrow.1.cell (by omega)⟩
      obtain ⟨u, hst⟩ := hst
      have hfz : wr.frozen? ⟨w.heap.size, i, none⟩ = false := hrow.1.frozen i
      obtain ⟨g1, o1, rfl, hg1, hc1⟩ := H1.out.head (by omega)
      have c1 : wr.cell? ⟨g1, o1 + i, none⟩ = _ := (HB.out.cell (p := ⟨g1, o1 + i, none⟩) hg1).trans (hc1 i (by omega))
      have hxl : ((a i : Nat) : Int) < 4294967296 := by have := H1.out.lt i (by omega); omega
      obtain ⟨x, hx⟩ : ∃ x, a i = x := ⟨_, rfl⟩
      rw [hx] at c1 hxl
      clear hc1
      by_cases hmi : (i : Int) < (m : Int)
      · obtain ⟨g2, o2, rfl, hg2, hc2⟩ := H2.out.head (by omega)
        have c2 : wr.cell? ⟨g2, o2 + i, none⟩ = _ := (HB.out.cell (p := ⟨g2, o2 + i, none⟩) hg2).trans (hc2 i (by omega))
        have hyl : ((b i : Nat) : Int) < 4294967296 := by have := H2.out.lt i (by omega); omega
        obtain ⟨y, hyb⟩ : ∃ y, b i = y := ⟨_, rfl⟩
        have hy : ext b m i = y := by unfold ext; rw [if_pos (by omega)]; exact hyb
        rw [hyb] at c2 hyl
        clear hc2 hyb
        have HC := c_Sub32 x y cy wr (by omega) (by omega) hcy
        obtain ⟨s, hs⟩ : ∃ s : Nat, (s : Int) = ((x : Int) - y - cy) % 4294967296 := ⟨(((x : Int) - y - cy) % 4294967296).toNat, by omega⟩
        have hnew := less_step hrow hval hx hy (by omega) (by omega) (by omega) hs
        obtain ⟨cz, hcz⟩ : ∃ cz : Nat, (if x < y + cy then 1 else 0) = cz := ⟨_, rfl⟩
        have hczi : (if x < y + cy then (1 : Int) else 0) = (cz : Nat) := by rw [← hcz]; split <;> rfl
        have hcl : (cz : Int) ≤ 1 := by rw [← hczi]; split <;> decide
        rw [hcz] at hnew
        rw [← hs, hczi] at HC
        have HN := Lib.hid hnew
        have HC := Lib.hid HC
        clear hnew hs hcz hczi hx hy hval hrow
        go_wp2_with (go_at_call 212; refine HC.out.mono ?_; rintro e w' ⟨rfl, rfl⟩)
        go_roundw
        case rel => exact ⟨i + 1, cz, by omega, rfl, by go_num, hcl, HN.out, HB.out.setCell (Nat.le_refl _) _⟩
        case measure => simp [intOf]; omega
      · obtain ⟨y, hyb⟩ : ∃ y : Nat, 0 = y := ⟨_, rfl⟩
        have hy : ext b m i = y := by unfold ext; rw [if_neg (by omega)]; exact hyb
        subst hyb
        have hyl : ((0 : Nat) : Int) < 4294967296 := by decide
        have HC := c_Sub32 x 0 cy wr (by omega) (by omega) hcy
        obtain ⟨s, hs⟩ : ∃ s : Nat, (s : Int) = ((x : Int) - (0 : Nat) - cy) % 4294967296 := ⟨(((x : Int) - (0 : Nat) - cy) % 4294967296).toNat, by omega⟩
        have hnew := less_step hrow hval hx hy (by omega) (by omega) (by omega) hs
        obtain ⟨cz, hcz⟩ : ∃ cz : Nat, (if x < 0 + cy then 1 else 0) = cz := ⟨_, rfl⟩
        have hczi : (if x < 0 + cy then (1 : Int) else 0) = (cz : Nat) := by rw [← hcz]; split <;> rfl
        have hcl : (cz : Int) ≤ 1 := by rw [← hczi]; split <;> decide
        rw [hcz] at hnew
        rw [← hs, hczi] at HC
        have HN := Lib.hid hnew
        have HC := Lib.hid HC
        clear hnew hs hcz hczi hx hy hval hrow
        go_wp2_with (go_at_call 212; refine HC.out.mono ?_; rintro e w' ⟨rfl, rfl⟩)
        go_roundw
        case rel => exact ⟨i + 1, cz, by omega, rfl, by go_num, hcl, HN.out, HB.out.setCell (Nat.le_refl _) _⟩
        case measure => simp [intOf]; omega
    · obtain rfl : i = n := by omega
      have hfin := hrow.dg i (Nat.le_refl _)
      have hsum : vf r i = vf a i - vf b m := by
        rw [ext_vf b hmn] at hval
        have hle := HL.out
        have h1 := vf_lt hrow.2
        rcases Nat.lt_or_ge 0 cy with h | h
        · exfalso
          obtain rfl : cy = 1 := by omega
          omega
        · obtain rfl : cy = 0 := by omega
          omega
      have HF := Lib.hid hfin
      have HS := Lib.hid hsum
      clear hfin hsum hval hrow hcy
      go_wp2
      go_ret
      exact ⟨⟨_, _, _, rfl, HF.out, HS.out⟩, HB.out⟩
end Go.Proofs.YthikonjlgljikaaGreatDoor
namespace Go.Proofs.YthikonjlgljikaaGreatDoor
open Go.RowKit

/-- A slice of at most K digits of value t is returned. -/
def RetT (w' : World) (e : Ending) (K t : Nat) : Prop := ∃ k, k ≤ K ∧ RetD w' e k t
theorem RetN.d {w' : World} {e : Ending} {v : Nat} (h : RetN w' e v) : RetD w' e (nd v) v := by
  obtain ⟨p, c, he, hn⟩ := h
  exact ⟨p, c, dg v, he, hn, vf_nd v⟩
theorem RetD.t {w' : World} {e : Ending} {k v K : Nat} (h : RetD w' e k v) (hk : k ≤ K) : RetT w' e K v := ⟨k, hk, h⟩
/-- The state of a multiplication: the first k digits have value t, the others are 0. -/
def TimesAt (w : World) (g K k t : Nat) : Prop := ∃ r, Row w g K r ∧ vf r k = t ∧ ∀ l, k ≤ l → l < K → r l = 0
/-- .. within a row: j digits are done, of carry cy. -/
def InnerAt (w : World) (g K k i j t cy : Nat) : Prop := ∃ r, Row w g K r ∧ vf r k + 4294967296 ^ (i + j) * cy = t ∧ ∀ l, k ≤ l → l < K → r l = 0
theorem TimesAt.cell {w : World} {g K k t : Nat} (h : TimesAt w g K k t) {i : Nat} (hi : i < K) : ∃ u, w.cell? ⟨g, i, none⟩ = some u := by
  obtain ⟨r, hr, _⟩ := h
  exact ⟨_, hr.1.cell hi⟩
theorem inner_alg {vr P cy V Q x vb s cz o R y vu : Nat} (h1 : vr + P * cy = V + Q * (x * vb)) (hP : P = Q * R) (h2 : x * y + o + cy = s + 4294967296 * cz) (h3 : vu + P * o = vr + P * s) : vu + (4294967296 * P) * cz = V + Q * (x * (vb + R * y)) := by
  have h4 : P * (x * y) + P * o + P * cy = P * s + P * (4294967296 * cz) := by rw [← Nat.mul_add, ← Nat.mul_add, ← Nat.mul_add, h2]
  have h5 : Q * (x * (vb + R * y)) = Q * (x * vb) + P * (x * y) := by rw [hP]; simp only [Nat.mul_add, Nat.mul_comm, Nat.mul_left_comm]
  have h6 : (4294967296 * P) * cz = P * (4294967296 * cz) := by simp only [Nat.mul_comm, Nat.mul_left_comm]
  rw [h5, h6]
  omega
theorem inner_step {w : World} {g K k i j V x cy o y s cz : Nat} {b r : Nat → Nat} (hrow : Row w g K r) (hval : vf r k + 4294967296 ^ (i + j) * cy = V + 4294967296 ^ i * (x * vf b j)) (hz : ∀ l, k ≤ l → l < K → r l = 0)
    (hk : i + j < k) (ho : r (i + j) = o) (hy : b j = y) (hs : (x * y + o + cy) % 4294967296 = s) (hcz : (x * y + o + cy) / 4294967296 = cz) :
    InnerAt (w.setCell ⟨g, i + j, none⟩ (.int .u32 s)) g K k i (j + 1) (V + 4294967296 ^ i * (x * vf b (j + 1))) cz := by
  refine ⟨_, hrow.set (i + j) s (by omega), ?_, fun l h1 h2 => by unfold upd; rw [if_neg (by omega)]; exact hz l h1 h2⟩
  have h3 := vf_upd (a := r) (k := i + j) (d := s) (n := k) hk
  rw [ho] at h3
  rw [vf, hy, ← Nat.add_assoc i j 1, pow_succ']
  exact inner_alg hval (Nat.pow_add _ _ _) (by omega) h3
theorem inner_end {w : World} {g K i m V x cy : Nat} {a b : Nat → Nat} (h : InnerAt w g K (i + m) i m (V + 4294967296 ^ i * (x * vf b m)) cy) (hV : V = vf a i * vf b m) (hx : a i = x) (hcy : cy < 4294967296) :
    TimesAt (w.setCell ⟨g, i + m, none⟩ (.int .u32 cy)) g K (i + 1 + m) (vf a (i + 1) * vf b m) := by
  obtain ⟨r, hrow, hval, hz⟩ := h
  refine ⟨_, hrow.set (i + m) cy hcy, ?_, fun l h1 h2 => by unfold upd; rw [if_neg (by omega)]; exact hz l (by omega) h2⟩
  rw [show i + 1 + m = (i + m) + 1 from by omega, vf, vf_upd_ge (Nat.le_refl _), show upd r (i + m) cy (i + m) = cy from by simp [upd], hval, hV, vf, hx, Nat.add_mul, Nat.mul_assoc]
set_option maxRecDepth 100000 in
theorem c_times (p : Option Addr) (c n : Nat) (a : Nat → Nat) (q : Option Addr) (d m : Nat) (b : Nat → Nat) (w : World) (h1 : Dg w p c n a) (h2 : Dg w q d m b) (hn : n ≤ 35184372088830) (hm : m ≤ 35184372088830) :
    Calls Tryz.prog 130 #[.slice p n c, .slice q m d] w fun e w' => RetT w' e (n + m) (vf a n * vf b m) ∧ Below w.heap.size w w' := by
  have H1 := Lib.hid h1
  have H2 := Lib.hid h2
  clear h1 h2
  by_cases h0 : n = 0 ∨ m = 0
  · have hT : vf a n * vf b m = 0 := by rcases h0 with rfl | rfl <;> simp [vf]
    rw [hT]
    have hnil : RetT w (.returned (.slice none 0 0)) (n + m) 0 := ⟨0, Nat.zero_le _, none, 0, fun _ => 0, rfl, ⟨Nat.le_refl _, fun j hj => absurd hj (Nat.not_lt_zero _), .inl rfl⟩, rfl⟩
    have HN := Lib.hid hnil
    clear hnil hT
    by_cases hn0 : n = 0
    · subst hn0
      clear h0
      go_enter Tryz.func130, Tryz.ntmps130
      go_wp2
      go_ret
      exact ⟨HN.out, Below.refl _ _⟩
    · have hm0 : m = 0 := h0.resolve_left hn0
      subst hm0
      have hnb : ((n : Int) == 0) = false := beq_eq_false_iff_ne.2 (by omega)
      clear h0 hn0
      go_enter Tryz.func130, Tryz.ntmps130
      go_wp2
      go_ret
      exact ⟨HN.out, Below.refl _ _⟩
  · have hn0 : 0 < n := by omega
    have hm0 : 0 < m := by omega
    have hnb : ((n : Int) == 0) = false := beq_eq_false_iff_ne.2 (by omega)
    have hmb : ((m : Int) == 0) = false := beq_eq_false_iff_ne.2 (by omega)
    clear h0
    obtain ⟨g1, o1, rfl, hg1, hc1⟩ := H1.out.head hn0
    obtain ⟨g2, o2, rfl, hg2, hc2⟩ := H2.out.head hm0
    by_cases hone : n = 1 ∧ m = 1
    · obtain ⟨rfl, rfl⟩ := hone
      have l0 := H1.out.lt 0 (by omega)
      have m0 := H2.out.lt 0 (by omega)
      have c0 := hc1 0 (by omega)
      have d0 := hc2 0 (by omega)
      obtain ⟨x, hx⟩ : ∃ x, a 0 = x := ⟨_, rfl⟩
      obtain ⟨y, hy⟩ : ∃ y, b 0 = y := ⟨_, rfl⟩
      have hT : vf a 1 * vf b 1 = x * y := by simp [vf, hx, hy]
      rw [hx] at c0 l0
      rw [hy] at d0 m0
      rw [Nat.add_zero] at c0 d0
      obtain ⟨pp, hpp⟩ : ∃ pp, x * y = pp := ⟨_, rfl⟩
      have hppi : (x : Int) * (y : Int) = (pp : Nat) := by rw [← hpp]; exact (Int.natCast_mul _ _).symm
      have hle : pp ≤ 4294967295 * 4294967295 := by rw [← hpp]; exact Nat.mul_le_mul (by omega) (by omega)
      have hppl : (pp : Int) < 18446744073709551616 := by omega
      have hnd : nd pp ≤ 1 + 1 := nd_le.2 (by omega)
      have hxi : (x : Int) < 4294967296 := by omega
      have hyi : (y : Int) < 4294967296 := by omega
      rw [hT, hpp]
      have hw := fun w => c_wide pp w (by omega)
      have HW := Lib.hid hw
      have HND := Lib.hid hnd
      clear hw hT hpp hx hy l0 m0 hle hnd hc1 hc2 hn0 hm0
      go_enter Tryz.func130, Tryz.ntmps130
      go_wp2
      go_still_tail 9, (by kernel_rfl)
      change wpList _ _ _ _ _ w.drew
      generalize hwd : w.drew = wd
      have hbd : Below w.heap.size w wd := by rw [← hwd]; exact (Below.refl _ _).drew
      have HBD := Lib.hid hbd
      clear hwd hbd
      go_wp2_with (go_at_call 120; rw [hppi]; refine (HW.out _).mono ?_; rintro e w' ⟨⟨p, c', rfl, hnm⟩, hb⟩)
      go_ret
      have hR : RetN w' (.returned (.slice p (nd pp) c')) pp := ⟨p, c', rfl, hnm⟩
      exact ⟨RetD.t hR.d HND.out, HBD.out.trans (hb.mono HBD.out.size)⟩
    · have hmk : ∀ w, (Instr.makeSlice 31 (.int .i64 ((n : Int) + (m : Int))) (.int .i64 ((n : Int) + (m : Int)))).run Tryz.prog w = .ok (.slice (some ⟨w.heap.size, 0, none⟩) (n + m) (n + m)) (w.alloc (.cells (madeCells #[.int .u32 0] (n + m)) 187)) := make32 (n + m) (by omega)
      have hrow := Row.made w (n + m)
      have HR := Lib.hid hrow
      have HO := Lib.hid hone
      clear hrow hone hc1 hc2
      go_enter Tryz.func130, Tryz.ntmps130
      go_upto_region 3 with (fail)
      go_cut [27] (fun v wc => wc = w ∧ v = .bool false)
      case first =>
        by_cases hn1 : (n : Int) = 1
        · have hmb1 : ((m : Int) == 1) = false := beq_eq_false_iff_ne.2 (by have := HO.out; omega)
          have hnb1 : ((n : Int) == 1) = true := by rw [beq_iff_eq]; exact hn1
          clear hn1
          go_wp2
          go_meet
          case rel => exact ⟨rfl, rfl⟩
        · have hnb1 : ((n : Int) == 1) = false := beq_eq_false_iff_ne.2 hn1
          clear hn1
          go_wp2
          go_meet
          case rel => exact ⟨rfl, rfl⟩
      case rest =>
        obtain ⟨rfl, rfl⟩ := hcut
        go_wp2
        obtain ⟨wb, hwb⟩ : ∃ wb, wc.alloc (.cells (madeCells #[.int .u32 0] (n + m)) 187) = wb := ⟨_, rfl⟩
        rw [hwb]
        have hbel : Below wc.heap.size wc wb := by rw [← hwb]; exact (Below.refl _ _).alloc (Nat.le_refl _) _
        have hstart : TimesAt wb wc.heap.size (n + m) (0 + m) (vf a 0 * vf b m) := by
          rw [hwb] at HR
          refine ⟨_, HR.out, ?_, fun _ _ _ => rfl⟩
          rw [vf_zero (fun _ _ => rfl)]; simp [vf]
        have HB0 := Lib.hid hbel
        have HS0 := Lib.hid hstart
        obtain ⟨G, hG⟩ : ∃ G, wc.heap.size = G := ⟨_, rfl⟩
        have HG := Lib.hid hG
        have hg1' : g1 < G := by omega
        have hg2' : g2 < G := by omega
        rw [hG] at HB0 HS0
        rw [hG]
        clear hwb hbel hstart hmk HR hG hg1 hg2 HO
        go_loopw [46] (fun v wr => ∃ i : Nat, i ≤ n ∧ v = .int .i64 i ∧ TimesAt wr G (n + m) (i + m) (vf a i * vf b m) ∧ Below G wc wr) (fun v _ => n - (intOf v).toNat)
        case atStart => exact ⟨0, Nat.zero_le _, rfl, HS0.out, HB0.out⟩
        case round =>
          obtain ⟨i, hi, rfl, hT, hb⟩ := hrel
          have HB := Lib.hid hb
          have HT := Lib.hid hT
          clear hb hT
          by_cases hlt : (i : Int) < (n : Int)
          · have c1 : wr.cell? ⟨g1, o1 + i, none⟩ = _ := (HB.out.cell (p := ⟨g1, o1 + i, none⟩) hg1').trans ((H1.out.head hn0).elim fun g h => h.elim fun o h => by
              obtain ⟨e, _, hc⟩ := h
              injection e with e; injection e with e1 e2; subst e1; subst e2
              exact hc i (by omega))
            have hxl : ((a i : Nat) : Int) < 4294967296 := by have := H1.out.lt i (by omega); omega
            obtain ⟨x, hx⟩ : ∃ x, a i = x := ⟨_, rfl⟩
            rw [hx] at c1 hxl
            have HX := Lib.hid hx
            clear hx
            go_wp2
            obtain ⟨wo, rfl⟩ : ∃ wo : World, wo = wr := ⟨_, rfl⟩
            obtain ⟨V, hV⟩ : ∃ V, vf a i * vf b m = V := ⟨_, rfl⟩
            have HV := Lib.hid hV
            rw [hV] at HT
            clear hV
            go_loopw [8, 53] (fun v8 v53 wr => ∃ j cy : Nat, j ≤ m ∧ v8 = .int .u64 cy ∧ v53 = .int .i64 j ∧ (cy : Int) < 4294967296 ∧ InnerAt wr G (n + m) (i + m) i j (V + 4294967296 ^ i * (x * vf b j)) cy ∧ Below G wc wr) (fun _ v53 _ => m - (intOf v53).toNat)
            case atStart => exact ⟨0, 0, Nat.zero_le _, rfl, rfl, by decide, by
              obtain ⟨r, hr, hv, hz⟩ := HT.out
              exact ⟨r, hr, by simp [vf, hv], hz⟩, HB.out⟩
            case round =>
              obtain ⟨j, cy, hj, rfl, rfl, hcy, hI, hb⟩ := hrel
              have HB2 := Lib.hid hb
              clear hb
              by_cases hjl : (j : Int) < (m : Int)
              · obtain ⟨r, hrow, hval, hz⟩ := hI
                have d1 : wr.cell? ⟨g2, o2 + j, none⟩ = _ := (HB2.out.cell (p := ⟨g2, o2 + j, none⟩) hg2').trans ((H2.out.head hm0).elim fun g h => h.elim fun o h => by
                  obtain ⟨e, _, hc⟩ := h
                  injection e with e; injection e with e1 e2; subst e1; subst e2
                  exact hc j (by omega))
                have hyl : ((b j : Nat) : Int) < 4294967296 := by have := H2.out.lt j (by omega); omega
                obtain ⟨y, hy⟩ : ∃ y, b j = y := ⟨_, rfl⟩
                rw [hy] at d1 hyl
                have hst : wr.cell? ⟨G, i + j, none⟩ = some (.int .u32 (r (i + j) : Nat)) := hrow.1.cell (by omega)
                have hfz : wr.frozen? ⟨G, i + j, none⟩ = false := hrow.1.frozen _
                have hol : ((r (i + j) : Nat) : Int) < 4294967296 := by have := hrow.2 (i + j) (by omega); omega
                obtain ⟨o, ho⟩ : ∃ o, r (i + j) = o := ⟨_, rfl⟩
                rw [ho] at hst hol
                obtain ⟨pp, hpp⟩ : ∃ pp, x * y = pp := ⟨_, rfl⟩
                have hppi : (x : Int) * (y : Int) = (pp : Nat) := by rw [← hpp]; exact (Int.natCast_mul _ _).symm
                have hle : pp ≤ 4294967295 * 4294967295 := by rw [← hpp]; exact Nat.mul_le_mul (by omega) (by omega)
                have hppl : (pp : Int) ≤ 18446744065119617025 := by omega
                obtain ⟨s, hs⟩ : ∃ s, (x * y + o + cy) % 4294967296 = s := ⟨_, rfl⟩
                obtain ⟨cz, hcz⟩ : ∃ cz, (x * y + o + cy) / 4294967296 = cz := ⟨_, rfl⟩
                have hnew := inner_step hrow hval hz (by omega) ho hy hs hcz
                rw [hpp] at hs hcz
                have hsi : ((pp : Int) + (o : Int) + (cy : Int)) % 4294967296 = (s : Nat) := by omega
                have hci : ((pp : Int) + (o : Int) + (cy : Int)) / 4294967296 = (cz : Nat) := by omega
                have hcl : (cz : Int) < 4294967296 := by omega
                have HN := Lib.hid hnew
                clear hnew hrow hval hz ho hy hs hcz hpp hle
                go_wp2
                go_roundw
                case rel => exact ⟨j + 1, cz, by omega, rfl, by go_num, hcl, HN.out, HB2.out.setCell (Nat.le_refl _) _⟩
                case measure => simp [intOf]; omega
              · obtain rfl : j = m := by omega
                have hfin := inner_end hI HV.out.symm HX.out (by omega)
                obtain ⟨r, hrow, _, _⟩ := hI
                have hst : wr.cell? ⟨G, i + j, none⟩ = some (.int .u32 (r (i + j) : Nat)) := hrow.1.cell (by omega)
                have hfz : wr.frozen? ⟨G, i + j, none⟩ = false := hrow.1.frozen _
                have HF := Lib.hid hfin
                clear hfin hrow
                go_wp2
                go_roundw
                case rel => exact ⟨i + 1, by omega, by go_num, HF.out, HB2.out.setCell (Nat.le_refl _) _⟩
                case measure => simp [intOf]; omega
          · obtain rfl : i = n := by omega
            go_wp2
            go_ret
            obtain ⟨r, hr, hv, _⟩ := HT.out
            have hR : RetD wr (.returned (.slice (some ⟨G, 0, none⟩) (i + m) (i + m))) (i + m) (vf a i * vf b m) := ⟨_, _, r, rfl, hr.dg _ (Nat.le_refl _), hv⟩
            exact ⟨hR.t (Nat.le_refl _), by rw [HG.out]; exact HB.out⟩
end Go.Proofs.YthikonjlgljikaaGreatDoor
namespace Go.Proofs.YthikonjlgljikaaGreatDoor
open Go.RowKit

set_option maxRecDepth 100000 in
theorem c_Div32 (hi lo y : Nat) (w : World) (hlo : (lo : Int) < 4294967296) (hy : (y : Int) < 4294967296) (hlt : (hi : Int) < (y : Int)) :
    Calls Tryz.prog 227 #[.int .u32 hi, .int .u32 lo, .int .u32 y] w fun e w' => e = .returned (.tuple #[.int .u32 ((lo + 4294967296 * hi) / y : Nat), .int .u32 ((lo + 4294967296 * hi) % y : Nat)]) ∧ ∃ k, w' = w.drewN k := by
  have hor := or64 hi lo (by omega) (by omega)
  obtain ⟨z, hz⟩ : ∃ z, lo + 4294967296 * hi = z := ⟨_, rfl⟩
  rw [hz] at hor ⊢
  have hzi : (lo : Int) + 4294967296 * (hi : Int) = (z : Nat) := by omega
  obtain ⟨q, hq⟩ : ∃ q, z / y = q := ⟨_, rfl⟩
  obtain ⟨r, hr⟩ : ∃ r, z % y = r := ⟨_, rfl⟩
  have hqi : (z : Int) / (y : Int) = (q : Nat) := by rw [← hq]; exact (Int.natCast_ediv _ _).symm
  have hri : (z : Int) % (y : Int) = (r : Nat) := by rw [← hr]; exact (Int.natCast_emod _ _).symm
  have hrl : r < y := by rw [← hr]; exact Nat.mod_lt _ (by omega)
  have hql : q < 4294967296 := by
    rw [← hq, Nat.div_lt_iff_lt_mul (by omega)]
    have : 4294967296 * (hi + 1) ≤ 4294967296 * y := Nat.mul_le_mul_left _ (by omega)
    omega
  have hqt : Int.tdiv (z : Int) (y : Int) = (q : Nat) := by rw [Int.tdiv_eq_ediv_of_nonneg (by omega)]; exact hqi
  have hrt : Int.tmod (z : Int) (y : Int) = (r : Nat) := by rw [Int.tmod_eq_emod_of_nonneg (by omega)]; exact hri
  have hqm : ((q : Nat) : Int) % 4294967296 = (q : Nat) := by omega
  have hrm : ((r : Nat) : Int) % 4294967296 = (r : Nat) := by omega
  have hqm2 : ((q : Nat) : Int) % 18446744073709551616 = (q : Nat) := by omega
  have hzl : (z : Int) < 18446744073709551616 := by omega
  have hqli : (q : Int) < 4294967296 := by omega
  have hrli : (r : Int) < 4294967296 := by omega
  have hyb : ((y : Int) != 0) = true := by rw [bne_iff_ne]; omega
  have hle : ¬ ((y : Int) ≤ (hi : Int)) := by omega
  rw [hq, hr]
  clear hq hr hql hrl hz hzi
  go_enter Tryz.func227, Tryz.ntmps227
  go_wp2
  go_quiet (fail)
  go_wp2
  go_ret2
  exact ⟨rfl, nq, rfl⟩

/-- The state of a short division: the digits from k on are done, q the quotient's value so far, r the remainder. -/
def ShortAt (w : World) (g n k d r : Nat) (a : Nat → Nat) : Prop := ∃ qr, Row w g n qr ∧ (∀ l, l < k → qr l = 0) ∧ vf qr n * d + 4294967296 ^ k * r + vf a k = vf a n
theorem short_step {w : World} {g n k d r x q r' : Nat} {a : Nat → Nat} (h : ShortAt w g n (k + 1) d r a) (hx : a k = x) (hk : k < n) (hq : (x + 4294967296 * r) / d = q) (hr : (x + 4294967296 * r) % d = r') (hql : q < 4294967296) :
    ShortAt (w.setCell ⟨g, k, none⟩ (.int .u32 q)) g n k d r' a := by
  obtain ⟨qr, hrow, hz, hv⟩ := h
  refine ⟨_, hrow.set k q hql, fun l hl => by unfold upd; rw [if_neg (by omega)]; exact hz l (by omega), ?_⟩
  have h1 := vf_upd (a := qr) (k := k) (d := q) (n := n) hk
  rw [hz k (by omega), Nat.mul_zero, Nat.add_zero] at h1
  have h2 : d * q + r' = x + 4294967296 * r := by rw [← hq, ← hr]; exact Nat.div_add_mod _ _
  have h3 := congrArg (4294967296 ^ k * ·) h2
  simp only [Nat.mul_add] at h3
  rw [vf, hx, pow_succ'] at hv
  rw [h1, Nat.add_mul, Nat.mul_assoc, Nat.mul_comm q d]
  rw [show 4294967296 * 4294967296 ^ k * r = 4294967296 ^ k * (4294967296 * r) from by rw [Nat.mul_comm 4294967296, Nat.mul_assoc]] at hv
  omega
/-- A quotient of n digits and a remainder of one are returned. -/
def RetS (w' : World) (e : Ending) (n t r : Nat) : Prop := ∃ p c qr, e = .returned (.tuple #[.slice p n c, .int .u32 (r : Nat)]) ∧ Dg w' p c n qr ∧ vf qr n = t
set_option maxRecDepth 100000 in
theorem c_short (p : Option Addr) (c n : Nat) (a : Nat → Nat) (d : Nat) (w : World) (h1 : Dg w p c n a) (hn : n ≤ 70368744177660) (hd0 : 0 < d) (hd : (d : Int) < 4294967296) :
    Calls Tryz.prog 220 #[.slice p n c, .int .u32 d] w fun e w' => RetS w' e n (vf a n / d) (vf a n % d) ∧ Below w.heap.size w w' := by
  have hmk : ∀ w, (Instr.makeSlice 31 (.int .i64 (n : Int)) (.int .i64 (n : Int))).run Tryz.prog w = .ok (.slice (some ⟨w.heap.size, 0, none⟩) n n) (w.alloc (.cells (madeCells #[.int .u32 0] n) 187)) := make32 n (by omega)
  have hrow := Row.made w n
  have H1 := Lib.hid h1
  have HR := Lib.hid hrow
  clear h1 hrow
  go_enter Tryz.func220, Tryz.ntmps220
  go_wp2
  obtain ⟨wb, hwb⟩ : ∃ wb, w.alloc (.cells (madeCells #[.int .u32 0] n) 187) = wb := ⟨_, rfl⟩
  rw [hwb]
  have hbel : Below w.heap.size w wb := by rw [← hwb]; exact (Below.refl _ _).alloc (Nat.le_refl _) _
  rw [hwb] at HR
  have HB0 := Lib.hid hbel
  clear hwb hbel hmk
  go_loopw [7, 8] (fun v7 v8 wr => ∃ k r : Nat, k ≤ n ∧ v7 = .int .u32 r ∧ v8 = .int .i64 ((k : Int) - 1) ∧ (r : Int) < (d : Int) ∧ ShortAt wr w.heap.size n k d r a ∧ Below w.heap.size w wr) (fun _ v8 _ => (intOf v8 + 1).toNat)
  case atStart => exact ⟨n, 0, Nat.le_refl _, rfl, by go_num, by omega, ⟨_, HR.out, fun _ _ => rfl, by rw [vf_zero (fun _ _ => rfl)]; omega⟩, HB0.out⟩
  case round =>
    obtain ⟨k, r, hk, rfl, rfl, hrd, hS, hb⟩ := hrel
    have HB := Lib.hid hb
    have HS := Lib.hid hS
    clear hb hS
    by_cases h0 : k = 0
    · subst h0
      obtain ⟨qr, hrow, _, hv⟩ := HS.out
      simp only [Nat.pow_zero, Nat.one_mul, vf, Nat.add_zero] at hv
      have hq : vf qr n = vf a n / d := by rw [← hv, Nat.mul_comm, Nat.mul_add_div hd0, Nat.div_eq_of_lt (by omega), Nat.add_zero]
      have hr : r = vf a n % d := by rw [← hv, Nat.mul_comm, Nat.mul_add_mod, Nat.mod_eq_of_lt (by omega)]
      have HQ := Lib.hid hq
      have hR : RetS wr (.returned (.tuple #[.slice (some ⟨w.heap.size, 0, none⟩) n n, .int .u32 (r : Nat)])) n (vf a n / d) (vf a n % d) := by rw [← hr]; exact ⟨_, _, qr, rfl, hrow.dg n (Nat.le_refl _), hq⟩
      have HF := Lib.hid hR
      clear hrow hv hq hr hR
      go_wp2
      go_ret2
      exact ⟨HF.out, HB.out⟩
    · obtain ⟨k, rfl⟩ : ∃ j, k = j + 1 := ⟨k - 1, by omega⟩
      obtain ⟨g1, o1, rfl, hg1, hc1⟩ := H1.out.head (by omega)
      have c1 : wr.cell? ⟨g1, o1 + k, none⟩ = _ := (HB.out.cell (p := ⟨g1, o1 + k, none⟩) hg1).trans (hc1 k (by omega))
      have hxl : ((a k : Nat) : Int) < 4294967296 := by have := H1.out.lt k (by omega); omega
      obtain ⟨x, hx⟩ : ∃ x, a k = x := ⟨_, rfl⟩
      rw [hx] at c1 hxl
      have hst : ∃ u, wr.cell? ⟨w.heap.size, k, none⟩ = some u := by obtain ⟨qr, hrow, _⟩ := HS.out; exact ⟨_, hrow.1.cell (by omega)⟩
      obtain ⟨u, hst⟩ := hst
      have hfz : wr.frozen? ⟨w.heap.size, k, none⟩ = false := by obtain ⟨qr, hrow, _⟩ := HS.out; exact hrow.1.frozen k
      have HC := c_Div32 r x d wr hxl hd hrd
      obtain ⟨q, hq⟩ : ∃ q, (x + 4294967296 * r) / d = q := ⟨_, rfl⟩
      obtain ⟨r', hr⟩ : ∃ r', (x + 4294967296 * r) % d = r' := ⟨_, rfl⟩
      have hql : q < 4294967296 := by
        rw [← hq, Nat.div_lt_iff_lt_mul hd0]
        have : 4294967296 * (r + 1) ≤ 4294967296 * d := Nat.mul_le_mul_left _ (by omega)
        omega
      have hrl : (r' : Int) < (d : Int) := by have : r' < d := (by rw [← hr]; exact Nat.mod_lt _ hd0); omega
      have hqi : (q : Int) < 4294967296 := by omega
      have hnew := short_step HS.out hx (by omega) hq hr hql
      rw [hq, hr] at HC
      have HC := Lib.hid HC
      have HN := Lib.hid hnew
      have e1 : (((k + 1 : Nat) : Int) - 1) = (k : Int) := by omega
      rw [e1]
      clear hnew hq hr hx hc1 hql h0 e1
      go_wp2_with (go_at_call 227; refine HC.out.mono ?_; rintro e w' ⟨rfl, kk, rfl⟩)
      go_roundw
      case rel => exact ⟨k, r', by omega, rfl, rfl, hrl, HN.out, (below_drewN' HB.out kk).setCell (Nat.le_refl _) _⟩
      case measure => simp [intOf]

theorem len8_get (b : Int) (h0 : 0 ≤ b) (h1 : b ≤ 255) {h : b.toNat < Lib.len8tab.size} : ((Lib.len8tab[b.toNat]'h).toNat : Int) = (Lib.bitLen b.toNat : Int) := by
  rw [← Lib.len8_of b h0 h1]
  unfold Lib.len8
  rw [getElem?_pos Lib.len8tab b.toNat h]
  rfl
theorem len24 (x : Int) (y : Nat) (h0 : 0 ≤ x) (h1 : x ≤ 4294967295) (h2 : 16777216 ≤ x) (h3 : x / 65536 / 256 ≤ 255) (hb : (y : Int) = (Lib.bitLen (x / 65536 / 256).toNat : Int)) : wrap64 (24 + wrap64 (y : Int)) = ((Lib.bitLen x.toNat : Nat) : Int) := by
  have l := Lib.bitLen_le8' (x / 65536 / 256) (by omega) h3
  have s := Lib.bitLen_shift24 x.toNat (by omega) (by omega)
  have e : (x / 65536 / 256).toNat = x.toNat / 16777216 := by omega
  rw [e] at hb l
  generalize Lib.bitLen (x.toNat / 16777216) = z at *
  generalize Lib.bitLen x.toNat = t at *
  have : y ≤ 8 := by omega
  clear e h0 h1 h2 h3
  unfold wrap64
  omega
theorem len16 (x : Int) (y : Nat) (h0 : 0 ≤ x) (h1 : x ≤ 4294967295) (h2 : 65536 ≤ x) (h3 : x / 65536 ≤ 255) (hb : (y : Int) = (Lib.bitLen (x / 65536).toNat : Int)) : wrap64 (16 + wrap64 (y : Int)) = ((Lib.bitLen x.toNat : Nat) : Int) := by
  have l := Lib.bitLen_le8' (x / 65536) (by omega) h3
  have s := Lib.bitLen_shift16 x.toNat (by omega) (by omega)
  have e : (x / 65536).toNat = x.toNat / 65536 := by omega
  rw [e] at hb l
  generalize Lib.bitLen (x.toNat / 65536) = z at *
  generalize Lib.bitLen x.toNat = t at *
  have : y ≤ 8 := by omega
  clear e h0 h1 h2 h3
  unfold wrap64
  omega
theorem len8 (x : Int) (y : Nat) (h0 : 0 ≤ x) (h1 : x ≤ 4294967295) (h2 : 256 ≤ x) (h3 : x / 256 ≤ 255) (hb : (y : Int) = (Lib.bitLen (x / 256).toNat : Int)) : wrap64 (8 + wrap64 (y : Int)) = ((Lib.bitLen x.toNat : Nat) : Int) := by
  have l := Lib.bitLen_le8' (x / 256) (by omega) h3
  have s := Lib.bitLen_shift8 x.toNat (by omega) (by omega)
  have e : (x / 256).toNat = x.toNat / 256 := by omega
  rw [e] at hb l
  generalize Lib.bitLen (x.toNat / 256) = z at *
  generalize Lib.bitLen x.toNat = t at *
  have : y ≤ 8 := by omega
  clear e h0 h1 h2 h3
  unfold wrap64
  omega
theorem len0 (x : Int) (y : Nat) (h0 : 0 ≤ x) (h3 : x ≤ 255) (hb : (y : Int) = (Lib.bitLen x.toNat : Int)) : wrap64 (wrap64 (y : Int)) = ((Lib.bitLen x.toNat : Nat) : Int) := by
  have l := Lib.bitLen_le8' x h0 h3
  generalize Lib.bitLen x.toNat = z at *
  have : y ≤ 8 := by omega
  unfold wrap64
  omega
set_option maxRecDepth 100000 in
theorem c_Len32 (x : Int) (w : World) (h0 : 0 ≤ x) (h1 : x ≤ 4294967295) :
    Calls Tryz.prog 228 #[.int .u32 x] w fun e w' => e = .returned (.int .i64 (Lib.bitLen x.toNat)) ∧ w' = w := by
  have hsz : (Lib.len8tab.size : Int) = 256 := by rw [Lib.len8tab_size]; rfl
  go_enter Tryz.func228, Tryz.ntmps228
  go_wp2
  · go_ret
    exact ⟨ret_i (len24 x _ h0 h1 (by omega) (by omega) (len8_get _ (by omega) (by omega))), rfl⟩
  · go_ret
    exact ⟨ret_i (len16 x _ h0 h1 (by omega) (by omega) (len8_get _ (by omega) (by omega))), rfl⟩
  · go_ret
    exact ⟨ret_i (len8 x _ h0 h1 (by omega) (by omega) (len8_get _ (by omega) (by omega))), rfl⟩
  · go_ret
    exact ⟨ret_i (len0 x _ h0 (by omega) (len8_get _ (by omega) (by omega))), rfl⟩
theorem c_Lz32 (x : Int) (w : World) (h0 : 0 ≤ x) (h1 : x ≤ 4294967295) :
    Calls Tryz.prog 221 #[.int .u32 x] w fun e w' => e = .returned (.int .i64 (32 - (Lib.bitLen x.toNat : Int))) ∧ w' = w := by
  have l : Lib.bitLen x.toNat ≤ 32 := Lib.bitLen_le x.toNat 32 (by omega) (by omega)
  have e8 : (32 - (Lib.bitLen x.toNat : Int) + 9223372036854775808) % 18446744073709551616 - 9223372036854775808 = 32 - (Lib.bitLen x.toNat : Int) := by omega
  go_enter Tryz.func221, Tryz.ntmps221
  go_wp2_with (go_at_call 228; refine (c_Len32 x _ h0 h1).mono ?_; rintro e w' ⟨rfl, rfl⟩)
  go_ret
  refine ⟨?_, rfl⟩
  rw [← e8]
  rfl
end Go.Proofs.YthikonjlgljikaaGreatDoor
namespace Go.Proofs.YthikonjlgljikaaGreatDoor
open Go.RowKit

theorem pow_split {s : Nat} (hs : s < 32) : (4294967296 : Nat) = 2 ^ s * 2 ^ (32 - s) := by
  rw [← Nat.pow_add, show s + (32 - s) = 32 from by omega]
theorem shl_mod (x s : Nat) (hs : s < 32) : x * 2 ^ s % 4294967296 = 2 ^ s * (x % 2 ^ (32 - s)) := by
  rw [pow_split hs, Nat.mul_comm x, Nat.mul_mod_mul_left]
theorem shl_lt (x s r : Nat) (hs : s < 32) (hr : r < 2 ^ s) : r + x * 2 ^ s % 4294967296 < 4294967296 := by
  rw [shl_mod x s hs]
  have h1 := Nat.mod_lt x (Nat.two_pow_pos (32 - s))
  have h2 := Nat.mul_le_mul_left (2 ^ s) (show x % 2 ^ (32 - s) + 1 ≤ 2 ^ (32 - s) from h1)
  rw [← pow_split hs, Nat.mul_add, Nat.mul_one] at h2
  omega
theorem shl_or (x s r : Nat) (hs : s < 32) (hr : r < 2 ^ s) : bits .or .u32 (r : Int) (((x * 2 ^ s : Nat) : Int) % 4294967296) = ((r + x * 2 ^ s % 4294967296 : Nat) : Int) := by
  have h1 := shl_lt x s r hs hr
  have h2 : ((x * 2 ^ s : Nat) : Int) % 4294967296 = ((x * 2 ^ s % 4294967296 : Nat) : Int) := by rw [Int.natCast_emod]; rfl
  rw [h2, u32_or_nat _ _ (by omega) (Nat.mod_lt _ (by omega)), Nat.or_comm, shl_mod x s hs, ← Nat.two_pow_add_eq_or_of_lt hr, Nat.add_comm]
theorem shl_top (x s : Nat) (hx : x < 4294967296) : x * 2 ^ s / 4294967296 < 2 ^ s := by
  rw [Nat.div_lt_iff_lt_mul (by omega), Nat.mul_comm]
  exact Nat.mul_lt_mul_of_pos_left hx (Nat.two_pow_pos s)
theorem two_pow_le {s : Nat} (hs : s < 32) : 2 ^ s ≤ 2147483648 := by
  have := Nat.pow_le_pow_right (show 0 < 2 by omega) (show s ≤ 31 by omega)
  omega
theorem shl_wrap (x s : Nat) (hs : s < 32) (hx : x < 4294967296) : IntKind.u64.wrap ((x : Int) * 2 ^ s) = ((x * 2 ^ s : Nat) : Int) := by
  have h1 : x * 2 ^ s ≤ 4294967295 * 2147483648 := Nat.mul_le_mul (by omega) (two_pow_le hs)
  have h2 : (x : Int) * 2 ^ s = ((x * 2 ^ s : Nat) : Int) := by rw [Int.natCast_mul, Int.natCast_pow]; rfl
  rw [h2, IntKind.wrap_u64]
  generalize x * 2 ^ s = t at *
  omega
/-- The state of a shift: k digits are done. -/
def ShiftAt (w : World) (g n1 k s t : Nat) : Prop := ∃ r, Row w g n1 r ∧ vf r (k + 1) = t * 2 ^ s ∧ r k < 2 ^ s
theorem shift_step {w : World} {g n1 k s x y z : Nat} {a r : Nat → Nat} (hrow : Row w g n1 r) (hv : vf r (k + 1) = vf a k * 2 ^ s) (hrs : r k < 2 ^ s) (hs : s < 32) (hx : a k = x) (hxl : x < 4294967296) (hy : r k + x * 2 ^ s % 4294967296 = y) (hz : x * 2 ^ s / 4294967296 = z) :
    ShiftAt ((w.setCell ⟨g, k, none⟩ (.int .u32 y)).setCell ⟨g, k + 1, none⟩ (.int .u32 z)) g n1 (k + 1) s (vf a (k + 1)) := by
  have h1 := shl_lt x s (r k) hs hrs
  have h2 := shl_top x s hxl
  have h3 := two_pow_le hs
  refine ⟨_, (hrow.set k y (by omega)).set (k + 1) z (by omega), ?_, by show (if k + 1 = k + 1 then z else _) < _; rw [if_pos rfl, ← hz]; exact h2⟩
  rw [vf, vf_upd_ge (Nat.le_refl _), vf, vf_upd_ge (Nat.le_refl _), show upd (upd r k y) (k + 1) z (k + 1) = z from by simp [upd], show upd r k y k = y from by simp [upd], vf, hx, Nat.add_mul, ← hv, vf, pow_succ']
  have h4 : x * 2 ^ s = x * 2 ^ s % 4294967296 + 4294967296 * z := by rw [← hz]; omega
  have h5 : 4294967296 ^ k * x * 2 ^ s = 4294967296 ^ k * (x * 2 ^ s % 4294967296) + 4294967296 * 4294967296 ^ k * z := by
    rw [Nat.mul_assoc, Nat.mul_comm 4294967296, Nat.mul_assoc, ← Nat.mul_add, ← h4]
  rw [h5, ← hy, Nat.mul_add]
  omega
/-- Own row of k digits of value t, returned as a slice from its head. -/
def RetR (B : Nat) (w' : World) (e : Ending) (k t : Nat) : Prop := ∃ g c r, e = .returned (.slice (some ⟨g, 0, none⟩) k c) ∧ k ≤ c ∧ B ≤ g ∧ Row w' g k r ∧ vf r k = t
set_option maxRecDepth 100000 in
theorem c_shifted (p : Option Addr) (c n : Nat) (a : Nat → Nat) (s : Nat) (w : World) (h1 : Dg w p c n a) (hn : n ≤ 70368744177660) (hs : (s : Int) < 32) :
    Calls Tryz.prog 222 #[.slice p n c, .int .u64 s] w fun e w' => RetR w.heap.size w' e (n + 1) (vf a n * 2 ^ s) ∧ Below w.heap.size w w' := by
  have hmk : ∀ w, (Instr.makeSlice 31 (.int .i64 ((n : Int) + 1)) (.int .i64 ((n : Int) + 1))).run Tryz.prog w = .ok (.slice (some ⟨w.heap.size, 0, none⟩) (n + 1) (n + 1)) (w.alloc (.cells (madeCells #[.int .u32 0] (n + 1)) 187)) := make32 (n + 1) (by omega)
  have hrow := Row.made w (n + 1)
  have H1 := Lib.hid h1
  have HR := Lib.hid hrow
  clear h1 hrow
  go_enter Tryz.func222, Tryz.ntmps222
  go_wp2
  obtain ⟨wb, hwb⟩ : ∃ wb, w.alloc (.cells (madeCells #[.int .u32 0] (n + 1)) 187) = wb := ⟨_, rfl⟩
  rw [hwb]
  have hbel : Below w.heap.size w wb := by rw [← hwb]; exact (Below.refl _ _).alloc (Nat.le_refl _) _
  rw [hwb] at HR
  have HB0 := Lib.hid hbel
  clear hwb hbel hmk
  go_loopw [15] (fun v15 wr => ∃ k : Nat, k ≤ n ∧ v15 = .int .i64 k ∧ ShiftAt wr w.heap.size (n + 1) k s (vf a k) ∧ Below w.heap.size w wr) (fun v15 _ => n - (intOf v15).toNat)
  case atStart => exact ⟨0, Nat.zero_le _, rfl, ⟨_, HR.out, by simp [vf], Nat.two_pow_pos s⟩, HB0.out⟩
  case round =>
    obtain ⟨k, hk, rfl, ⟨r, hrow, hv, hrs⟩, hb⟩ := hrel
    have HB := Lib.hid hb
    have HV := Lib.hid hv
    have HRS := Lib.hid hrs
    clear hb hv hrs
    by_cases hlt : (k : Int) < (n : Int)
    · obtain ⟨g1, o1, rfl, hg1, hc1⟩ := H1.out.head (by omega)
      have c1 : wr.cell? ⟨g1, o1 + k, none⟩ = _ := (HB.out.cell (p := ⟨g1, o1 + k, none⟩) hg1).trans (hc1 k (by omega))
      have hxl : ((a k : Nat) : Int) < 4294967296 := by have := H1.out.lt k (by omega); omega
      obtain ⟨x, hx⟩ : ∃ x, a k = x := ⟨_, rfl⟩
      rw [hx] at c1 hxl
      have hst : wr.cell? ⟨w.heap.size, k, none⟩ = some (.int .u32 (r k : Nat)) := hrow.1.cell (by omega)
      have hfz : wr.frozen? ⟨w.heap.size, k, none⟩ = false := hrow.1.frozen _
      have hst1 : wr.cell? ⟨w.heap.size, k + 1, none⟩ = some (.int .u32 (r (k + 1) : Nat)) := hrow.1.cell (by omega)
      have hfz1 : wr.frozen? ⟨w.heap.size, k + 1, none⟩ = false := hrow.1.frozen _
      have hwr := shl_wrap x s (by omega) (by omega)
      have hor := shl_or x s (r k) (by omega) HRS.out
      have hnew := shift_step hrow HV.out HRS.out (by omega) hx (by omega) rfl rfl
      have hcut : ((x * 2 ^ s : Nat) : Int) / 4294967296 % 4294967296 = ((x * 2 ^ s / 4294967296 : Nat) : Int) := by
        have h1 := shl_top x s (by omega)
        have h2 := two_pow_le (s := s) (by omega)
        generalize x * 2 ^ s = t at *
        omega
      have HN := Lib.hid hnew
      have HW := Lib.hid hwr
      have HO := Lib.hid hor
      have HCU := Lib.hid hcut
      clear hnew hrow hc1 hx hwr hor hcut
      go_wp2
      rw [HW.out, HO.out, HCU.out]
      go_roundw
      case rel => exact ⟨k + 1, by omega, by go_num, HN.out, (HB.out.setCell (Nat.le_refl _) _).setCell (Nat.le_refl _) _⟩
      case measure => simp [intOf]; omega
    · obtain rfl : k = n := by omega
      go_wp2
      go_ret
      have hR : RetR w.heap.size wr (.returned (.slice (some ⟨w.heap.size, 0, none⟩) (k + 1) (k + 1))) (k + 1) (vf a k * 2 ^ s) := ⟨_, _, r, rfl, Nat.le_refl _, Nat.le_refl _, hrow, HV.out⟩
      exact ⟨hR, HB.out⟩
theorem vf_div {a : Nat → Nat} {n : Nat} (h : ∀ i, i < n → a i < 4294967296) {i : Nat} (hi : i ≤ n) : vf a n / 4294967296 ^ i = vf (shf a i) (n - i) := by
  obtain ⟨k, rfl⟩ : ∃ k, n = i + k := ⟨n - i, by omega⟩
  rw [vf_split, Nat.add_sub_cancel_left, Nat.add_mul_div_left _ _ (Dig.pow_pos i), Nat.div_eq_of_lt (vf_lt fun j hj => h j (by omega)), Nat.zero_add]
/-- Digit i of a quotient by 2^s. -/
theorem unshift_digit {a : Nat → Nat} {n s i : Nat} (h : ∀ i, i < n → a i < 4294967296) (hs : s < 32) (hi : i < n) : dg (vf a n / 2 ^ s) i = (a i + 4294967296 * ext a n (i + 1)) / 2 ^ s % 4294967296 := by
  unfold dg
  rw [Nat.div_div_eq_div_mul, Nat.mul_comm, ← Nat.div_div_eq_div_mul, vf_div h (Nat.le_of_lt hi)]
  obtain ⟨m, hm⟩ : ∃ m, n - i = m + 1 := ⟨n - i - 1, by omega⟩
  rw [hm, vf_head, show shf a i 0 = a i from rfl]
  have hz : ∃ Z, vf (shf (shf a i) 1) m = ext a n (i + 1) + 4294967296 * Z := by
    cases m with
    | zero => exact ⟨0, by unfold ext; rw [if_neg (by omega)]; rfl⟩
    | succ m => exact ⟨vf (shf (shf (shf a i) 1) 1) m, by rw [vf_head]; unfold ext; rw [if_pos (by omega)]; unfold shf; simp⟩
  obtain ⟨Z, hZ⟩ := hz
  rw [hZ]
  have e : a i + 4294967296 * (ext a n (i + 1) + 4294967296 * Z) = (a i + 4294967296 * ext a n (i + 1)) + 2 ^ s * (4294967296 * (2 ^ (32 - s) * Z)) := by
    have := pow_split hs
    rw [Nat.mul_add, show 2 ^ s * (4294967296 * (2 ^ (32 - s) * Z)) = (2 ^ s * 2 ^ (32 - s)) * (4294967296 * Z) from by simp only [Nat.mul_assoc, Nat.mul_comm, Nat.mul_left_comm], ← this]
    omega
  rw [e, Nat.add_mul_div_left _ _ (Nat.two_pow_pos s), Nat.add_mul_mod_self_left]
theorem un_or (x y : Nat) (hx : x < 4294967296) (hy : y < 4294967296) : bits .or .u64 (x : Int) ((y : Int) * 4294967296) = ((x + 4294967296 * y : Nat) : Int) := by
  rw [show (y : Int) * 4294967296 = ((2 ^ 32 * y : Nat) : Int) from by omega, bits_or_u64_nat _ _ (by omega) (by omega), Nat.or_comm, ← Nat.two_pow_add_eq_or_of_lt (show x < 2 ^ 32 from hx)]
  omega
theorem un_cast (t s : Nat) : ((t : Nat) : Int) / 2 ^ s % 4294967296 = ((t / 2 ^ s % 4294967296 : Nat) : Int) := by
  rw [Int.natCast_emod, Int.natCast_ediv, Int.natCast_pow]; rfl
/-- The state of a shift back: k digits of T are done. -/
def UnAt (w : World) (g n k T : Nat) : Prop := ∃ r, Row w g n r ∧ ∀ i, i < k → r i = dg T i
theorem un_step {w : World} {g n k T : Nat} {r : Nat → Nat} (hrow : Row w g n r) (hv : ∀ i, i < k → r i = dg T i) : UnAt (w.setCell ⟨g, k, none⟩ (.int .u32 (dg T k : Nat))) g n (k + 1) T :=
  ⟨_, hrow.set k _ (dg_lt T k), fun i hi => by
    unfold upd
    split
    · rename_i h; rw [h]
    · exact hv i (by omega)⟩
set_option maxRecDepth 100000 in
theorem c_unshifted (p : Option Addr) (c n : Nat) (a : Nat → Nat) (s : Nat) (w : World) (h1 : Dg w p c n a) (hn : n ≤ 70368744177660) (hs : (s : Int) < 32) :
    Calls Tryz.prog 224 #[.slice p n c, .int .u64 s] w fun e w' => RetD w' e n (vf a n / 2 ^ s) ∧ Below w.heap.size w w' := by
  have hmk : ∀ w, (Instr.makeSlice 31 (.int .i64 (n : Int)) (.int .i64 (n : Int))).run Tryz.prog w = .ok (.slice (some ⟨w.heap.size, 0, none⟩) n n) (w.alloc (.cells (madeCells #[.int .u32 0] n) 187)) := make32 n (by omega)
  have hrow := Row.made w n
  have H1 := Lib.hid h1
  have HR := Lib.hid hrow
  clear h1 hrow
  go_enter Tryz.func224, Tryz.ntmps224
  go_wp2
  obtain ⟨wb, hwb⟩ : ∃ wb, w.alloc (.cells (madeCells #[.int .u32 0] n) 187) = wb := ⟨_, rfl⟩
  rw [hwb]
  have hbel : Below w.heap.size w wb := by rw [← hwb]; exact (Below.refl _ _).alloc (Nat.le_refl _) _
  rw [hwb] at HR
  have HB0 := Lib.hid hbel
  clear hwb hbel hmk
  go_loopw [13] (fun v wr => ∃ k : Nat, k ≤ n ∧ v = .int .i64 k ∧ UnAt wr w.heap.size n k (vf a n / 2 ^ s) ∧ Below w.heap.size w wr) (fun v _ => n - (intOf v).toNat)
  case atStart => exact ⟨0, Nat.zero_le _, rfl, ⟨_, HR.out, fun i hi => absurd hi (Nat.not_lt_zero _)⟩, HB0.out⟩
  case round =>
    obtain ⟨k, hk, rfl, ⟨r, hrow, hv⟩, hb⟩ := hrel
    have HB := Lib.hid hb
    have HV := Lib.hid hv
    clear hb hv
    by_cases hlt : (k : Int) < (n : Int)
    · obtain ⟨g1, o1, rfl, hg1, hc1⟩ := H1.out.head (by omega)
      have c1 : wr.cell? ⟨g1, o1 + k, none⟩ = _ := (HB.out.cell (p := ⟨g1, o1 + k, none⟩) hg1).trans (hc1 k (by omega))
      have hxl : ((a k : Nat) : Int) < 4294967296 := by have := H1.out.lt k (by omega); omega
      obtain ⟨x, hx⟩ : ∃ x, a k = x := ⟨_, rfl⟩
      have hst : wr.cell? ⟨w.heap.size, k, none⟩ = some (.int .u32 (r k : Nat)) := hrow.1.cell (by omega)
      have hfz : wr.frozen? ⟨w.heap.size, k, none⟩ = false := hrow.1.frozen _
      have hd := unshift_digit (a := a) (n := n) (s := s) (i := k) H1.out.lt (by omega) (by omega)
      rw [hx] at c1 hxl hd
      by_cases hlt1 : (k : Int) + 1 < (n : Int)
      · have c2 : wr.cell? ⟨g1, o1 + (k + 1), none⟩ = _ := (HB.out.cell (p := ⟨g1, o1 + (k + 1), none⟩) hg1).trans (hc1 (k + 1) (by omega))
        have hyl : ((a (k + 1) : Nat) : Int) < 4294967296 := by have := H1.out.lt (k + 1) (by omega); omega
        obtain ⟨y, hy⟩ : ∃ y, a (k + 1) = y := ⟨_, rfl⟩
        rw [show ext a n (k + 1) = y from by unfold ext; rw [if_pos (by omega)]; exact hy] at hd
        rw [hy] at c2 hyl
        have e2 : ((k : Int) + 1).toNat = k + 1 := by omega
        have hor := un_or x y (by omega) (by omega)
        have hcs := un_cast (x + 4294967296 * y) s
        rw [← hd] at hcs
        have hnew := un_step hrow HV.out
        have HN := Lib.hid hnew
        have HO := Lib.hid hor
        have HCS := Lib.hid hcs
        clear hc1 hx hy hor hcs hnew hd hrow
        go_wp2
        rw [HO.out, HCS.out]
        go_roundw
        case rel => exact ⟨k + 1, by omega, by go_num, HN.out, HB.out.setCell (Nat.le_refl _) _⟩
        case measure => simp [intOf]; omega
      · rw [show ext a n (k + 1) = 0 from by unfold ext; rw [if_neg (by omega)]] at hd
        have hcs := un_cast x s
        rw [Nat.mul_zero, Nat.add_zero] at hd
        rw [← hd] at hcs
        have hnew := un_step hrow HV.out
        have HN := Lib.hid hnew
        have HCS := Lib.hid hcs
        clear hc1 hx hcs hnew hd hrow
        go_wp2
        rw [HCS.out]
        go_roundw
        case rel => exact ⟨k + 1, by omega, by go_num, HN.out, HB.out.setCell (Nat.le_refl _) _⟩
        case measure => simp [intOf]; omega
    · obtain rfl : k = n := by omega
      have hval : vf r k = vf a k / 2 ^ s := by
        rw [vf_congr HV.out, vf_dg]
        exact Nat.lt_of_le_of_lt (Nat.div_le_self _ _) (vf_lt H1.out.lt)
      have hR : RetD wr (.returned (.slice (some ⟨w.heap.size, 0, none⟩) k k)) k (vf a k / 2 ^ s) := ⟨_, _, r, rfl, hrow.dg _ (Nat.le_refl _), hval⟩
      have HF := Lib.hid hR
      clear hR hval hrow
      go_wp2
      go_ret
      exact ⟨HF.out, HB.out⟩
end Go.Proofs.YthikonjlgljikaaGreatDoor
