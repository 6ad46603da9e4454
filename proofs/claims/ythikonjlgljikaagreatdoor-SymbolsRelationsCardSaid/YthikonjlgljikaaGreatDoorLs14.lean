/- Contracts of bigint's divide (all ways), signed, common. -/
import Derived.Test.YthikonjlgljikaaGreatDoorLs13
namespace Go.Proofs.YthikonjlgljikaaGreatDoor
open Go.RowKit

theorem c_divide (p : Option Addr) (c u : Nat) (q : Option Addr) (d v : Nat) (w : World) (h1 : Nm w p c u) (h2 : Nm w q d v) (hu : nd u ≤ 35184372088830) (hv : nd v ≤ 35184372088830) (hv0 : v ≠ 0) :
    Calls Tryz.prog 214 #[.slice p (nd u) c, .slice q (nd v) d] w fun e w' => RetNN w' e (u / v) (u % v) ∧ Below w.heap.size w w' := by
  rcases Nat.lt_or_ge u v with h | h
  · exact c_div_small p c u q d v w h1 h2 hu hv h
  · rcases Nat.lt_or_ge 2 (nd u) with h3 | h3
    · have h4 := nd_pos.2 hv0
      rcases Nat.lt_or_ge 1 (nd v) with h5 | h5
      · exact c_div_long p c u q d v w h1 h2 h3 hu h5 h
      · exact c_div_short p c u q d v w h1 h2 h3 hu (by omega) h
    · exact c_div_word p c u q d v w h1 h2 h3 (by omega) h
/-- A slice of digits, cut to its length without leading zeros. -/
theorem Dg.trim {w : World} {p : Option Addr} {c n : Nat} {a : Nat → Nat} (h : Dg w p c n a) : Nm w p c (vf a n) := by
  have hle : nd (vf a n) ≤ n := nd_le.2 (vf_lt h.lt)
  exact (h.take hle).congr fun j hj => dg_vf h.lt j (by omega)
theorem c_signed (neg : Bool) (p : Option Addr) (c n : Nat) (a : Nat → Nat) (w : World) (h : Dg w p c n a) (hn : n ≤ 70368744177664) :
    Calls Tryz.prog 119 #[.bool neg, .slice p n c] w fun e w' => RetZ w' e (sg neg (vf a n)) ∧ Below w.heap.size w w' := by
  have hb : ∀ o, Below w.heap.size w (w.alloc o) := fun o => (Below.refl _ _).alloc (Nat.le_refl _) o
  have HT := Lib.hid (fun w1 (hb : Below w.heap.size w w1) => c_trimmed p c n a w1 (h.keep hb) hn)
  have HN := Lib.hid h.trim
  obtain ⟨k, hk⟩ : ∃ k, nd (vf a n) = k := ⟨_, rfl⟩
  rw [hk] at HT
  have HK := Lib.hid hk
  have HB := Lib.hid hb
  clear h hk hb
  go_enter Tryz.func119, Tryz.ntmps119
  go_wp2_with fail
  refine (HT.out _ (HB.out _)).mono ?_
  rintro e w1 ⟨⟨rfl, hm⟩, rfl⟩
  clear HT hm
  cases neg with
  | false =>
    go_wp2
    go_returns
    exact ⟨⟨_, p, k, c, rfl, zs_of (HN.out.keep (HB.out _)) HK.out (by simp)⟩, HB.out _⟩
  | true =>
    go_wp2
    go_returns
    exact ⟨⟨_, p, k, c, rfl, zs_of (HN.out.keep (HB.out _)) HK.out (by simp)⟩, HB.out _⟩
theorem clone_nm (p : Option Addr) (c u : Nat) (w : World) (h : Nm w p c u) (hn : nd u ≤ 35184372088830) :
    Calls Tryz.prog 168 #[.slice p (nd u) c] w fun e w' => RetN w' e u ∧ Below w.heap.size w w' := by
  refine (c_Clone p c (nd u) (dg u) w h hn).mono ?_
  rintro e w' ⟨⟨p1, c1, r1, rfl, hd, hv⟩, hb⟩
  exact ⟨⟨p1, c1, rfl, hd.nm (by rw [hv, vf_nd]) rfl⟩, hb⟩
set_option maxHeartbeats 1000000 in
set_option maxRecDepth 100000 in
theorem c_common (p : Option Addr) (c u : Nat) (q : Option Addr) (d v : Nat) (w : World) (h1 : Nm w p c u) (h2 : Nm w q d v) (hu : nd u ≤ 35184372088830) (hv : nd v ≤ 35184372088830) :
    Calls Tryz.prog 183 #[.slice p (nd u) c, .slice q (nd v) d] w fun e w' => RetN w' e (Nat.gcd u v) ∧ Below w.heap.size w w' := by
  obtain ⟨G, hG⟩ : ∃ G, Nat.gcd u v = G := ⟨_, rfl⟩
  obtain ⟨n, hn⟩ : ∃ n, nd u = n := ⟨_, rfl⟩
  obtain ⟨m, hm⟩ : ∃ m, nd v = m := ⟨_, rfl⟩
  have HG := Lib.hid hG
  have H1 := Lib.hid h1
  have H2 := Lib.hid h2
  have HN := Lib.hid hn
  have HM := Lib.hid hm
  rw [hn] at hu
  rw [hm] at hv
  rw [hG, hn, hm]
  clear h1 h2 hn hm hG
  go_enter Tryz.func183, Tryz.ntmps183
  go_wp2
  go_loopg [0, 1] v (fun b v0 v1 wr => ∃ (a n m : Nat) (p q : Option Addr) (c d : Nat), v0 = .slice p n c ∧ v1 = .slice q m d ∧ nd a = n ∧ nd b = m ∧ n ≤ 35184372088830 ∧ m ≤ 35184372088830 ∧ Nm wr p c a ∧ Nm wr q d b ∧ Nat.gcd a b = G ∧ Below w.heap.size w wr)
  case atStart => exact ⟨u, n, m, p, q, c, d, rfl, rfl, HN.out, HM.out, hu, hv, H1.out, H2.out, HG.out, Below.refl _ _⟩
  case round =>
    clear H1 H2 HG HN HM hu hv n m c d p q u
    obtain ⟨a, n, m, p, q, c, d, rfl, rfl, hn, hm, hnl, hml, h1, h2, hG, hb⟩ := hrel
    have HB := Lib.hid hb
    have HG := Lib.hid hG
    by_cases hm0 : m = 0
    · subst hm0
      obtain rfl : gk = 0 := by
        have := nd_pos (v := gk); omega
      have hC := clone_nm p c a wr h1 (by omega)
      rw [hn] at hC
      rw [Nat.gcd_zero_right] at hG
      subst hG
      replace hC := Lib.hid hC
      clear h1 h2 hb HG hn hm
      go_wp2_with fail
      refine hC.out.mono ?_
      rintro e w1 ⟨hr, hb1⟩
      obtain ⟨p1, c1, rfl, hm1⟩ := hr
      obtain ⟨k, hk⟩ : ∃ k, nd a = k := ⟨_, rfl⟩
      rw [hk]
      have HK := Lib.hid hk
      have HM1 := Lib.hid hm1
      have HB1 := Lib.hid (HB.out.trans (hb1.mono HB.out.size))
      clear hm1 hb1 hk hC
      go_wp2
      go_ret
      exact ⟨⟨p1, c1, by rw [HK.out]; rfl, HM1.out⟩, HB1.out⟩
    · have hmd : 0 < m := by omega
      by_cases hsm : n ≤ 2 ∧ m ≤ 2
      · have hx := nd_le_two (u := a) (by omega)
        have hy := nd_le_two (u := gk) (by omega)
        have hC1 := c_wordN p c a wr h1 (by omega)
        have hC2 := fun w1 (hb1 : Below wr.heap.size wr w1) => c_wordN q d gk w1 (h2.keep hb1) (by omega)
        rw [hn] at hC1
        rw [hm] at hC2
        have hnd : n ≤ 2 := hsm.1
        have hmd2 : m ≤ 2 := hsm.2
        have HX := Lib.hid hx
        have HY := Lib.hid hy
        replace hC1 := Lib.hid hC1
        replace hC2 := Lib.hid hC2
        clear h1 h2 hb hG hn hm hx hy hsm hnl hml hm0
        go_wp2_with fail
        refine hC1.out.mono ?_
        rintro e w1 ⟨rfl, hq⟩
        have hb1 := quiet_below hq
        have HB1 := Lib.hid hb1
        clear hq hb1 hC1
        go_wp2_with fail
        refine (hC2.out _ HB1.out).mono ?_
        rintro e w2 ⟨rfl, hq⟩
        have HB2 := Lib.hid ((HB.out.trans (HB1.out.mono HB.out.size)).trans ((quiet_below hq).mono (Nat.le_trans HB.out.size HB1.out.size)))
        clear hq hC2 HB1 HB
        go_wp2
        go_loopw [5, 6] (fun v5 v6 wi => ∃ x y : Nat, v5 = .int .u64 x ∧ v6 = .int .u64 y ∧ Nat.gcd x y = G ∧ RowKit.Hid (x < 18446744073709551616 ∧ y < 18446744073709551616) ∧ Below w.heap.size w wi) (fun _ v6 _ => (intOf v6).toNat)
        case atStart => exact ⟨a, gk, rfl, rfl, HG.out, Lib.hid ⟨HX.out, HY.out⟩, HB2.out⟩
        case round =>
          clear HG HX HY HB2 hmd hnd hmd2
          obtain ⟨x, y, rfl, rfl, hg, HXY, hb⟩ := hrel
          have HB := Lib.hid hb
          by_cases hy0 : y = 0
          · subst hy0
            rw [Nat.gcd_zero_right] at hg
            subst hg
            have HW := Lib.hid (fun w => (c_wide x w HXY.out.1).mono (fun _ _ h => And.imp_left RetN.op h))
            clear hb
            go_wp2_with fail
            refine (HW.out _).mono ?_
            rintro e w4 ⟨⟨p4, n4, c4, rfl, hn4, hm4⟩, hb4⟩
            have HN4 := Lib.hid hn4
            have HM4 := Lib.hid hm4
            have HB4 := Lib.hid (HB.out.trans (hb4.mono HB.out.size))
            clear hn4 hm4 hb4 HW
            go_wp2
            go_ret
            exact ⟨⟨p4, c4, by rw [HN4.out]; rfl, HM4.out⟩, HB4.out⟩
          · obtain ⟨R, hR⟩ : ∃ R, x % y = R := ⟨_, rfl⟩
            have hRl : R < y := by rw [← hR]; exact Nat.mod_lt _ (by omega)
            have hrt : Int.tmod (x : Int) (y : Int) = (R : Nat) := by rw [Int.tmod_eq_emod_of_nonneg (by omega), ← hR]; exact (Int.natCast_emod _ _).symm
            have hrt2 : (x : Int) % (y : Int) = (R : Nat) := by rw [← hR]; exact (Int.natCast_emod _ _).symm
            have hnew : Nat.gcd y R = G := by rw [← hg, ← hR, Nat.gcd_comm x y, Nat.gcd_rec y x, Nat.gcd_comm]
            have HN := Lib.hid hnew
            have hyb : ((y : Int) != 0) = true := by rw [bne_iff_ne]; omega
            have hy1 : (y : Int) ≠ 0 := by omega
            have HRL := Lib.hid hRl
            clear hb hnew hR hg hRl
            go_wp2
            go_quiet (fail)
            go_wp2
            go_roundw
            case rel => exact ⟨y, R, rfl, rfl, HN.out, Lib.hid ⟨HXY.out.2, by have := HXY.out.2; have := HRL.out; omega⟩, below_drewN' HB.out _⟩
            case measure => simp [intOf]; exact HRL.out
      · have hb0 : gk ≠ 0 := nd_pos.1 (by omega)
        have hC := c_divide p c a q d gk wr h1 h2 (by omega) (by omega) hb0
        rw [hn, hm] at hC
        obtain ⟨R, hR⟩ : ∃ R, a % gk = R := ⟨_, rfl⟩
        have hRl : R < gk := by rw [← hR]; exact Nat.mod_lt _ (by omega)
        have hnew : Nat.gcd gk R = G := by rw [← hG, ← hR, Nat.gcd_comm a gk, Nat.gcd_rec gk a, Nat.gcd_comm]
        rw [hR] at hC
        have HN := Lib.hid hnew
        have HC := Lib.hid hC
        have HRL := Lib.hid hRl
        have H2 := Lib.hid h2
        have HM := Lib.hid hm
        clear h1 h2 hb hG hn hm hnew hC hRl hm0 hR hb0
        have htail : ∀ (w1 : World) (p2 : Option Addr) (c2 : Nat), Below wr.heap.size wr w1 → Nm w1 p2 c2 R → ∃ k, nd R = k ∧ RowKit.Hid (nd R = k ∧ k ≤ 35184372088830 ∧ Nm w1 q d gk ∧ Nm w1 p2 c2 R ∧ Below w.heap.size w w1) := by
          intro w1 p2 c2 hb1 hr
          have h1 : nd R ≤ m := by rw [← HM.out]; exact nd_mono (Nat.le_of_lt HRL.out)
          exact ⟨_, rfl, rfl, by omega, H2.out.keep hb1, hr, HB.out.trans (hb1.mono HB.out.size)⟩
        have HT := Lib.hid htail
        clear htail
        by_cases hn2 : n ≤ 2
        · have hmd2 : ¬ m ≤ 2 := by omega
          clear hsm
          go_wp2_with fail
          refine HC.out.mono ?_
          rintro e w1 ⟨⟨p1, c1, p2, c2, rfl, hq, hr⟩, hb1⟩
          obtain ⟨k, hk, HF⟩ := HT.out w1 p2 c2 hb1 hr
          rw [hk]
          obtain ⟨k1, hk1⟩ : ∃ k1, nd (a / gk) = k1 := ⟨_, rfl⟩
          rw [hk1]
          clear hk hk1 hq hr hb1 HT HC
          go_wp2
          go_roundg R
          case measure => exact HRL.out
          case rel => exact ⟨gk, m, k, q, p2, d, c2, rfl, rfl, HM.out, HF.out.1, by omega, HF.out.2.1, HF.out.2.2.1, HF.out.2.2.2.1, HN.out, HF.out.2.2.2.2⟩
        · clear hsm
          go_wp2_with fail
          refine HC.out.mono ?_
          rintro e w1 ⟨⟨p1, c1, p2, c2, rfl, hq, hr⟩, hb1⟩
          obtain ⟨k, hk, HF⟩ := HT.out w1 p2 c2 hb1 hr
          rw [hk]
          obtain ⟨k1, hk1⟩ : ∃ k1, nd (a / gk) = k1 := ⟨_, rfl⟩
          rw [hk1]
          clear hk hk1 hq hr hb1 HT HC
          go_wp2
          go_roundg R
          case measure => exact HRL.out
          case rel => exact ⟨gk, m, k, q, p2, d, c2, rfl, rfl, HM.out, HF.out.1, by omega, HF.out.2.1, HF.out.2.2.1, HF.out.2.2.2.1, HN.out, HF.out.2.2.2.2⟩
end Go.Proofs.YthikonjlgljikaaGreatDoor
