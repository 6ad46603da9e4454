/- Contract of halfplaneref01.minus. Contracts of halfplaneref01: Neg, Abs, word, split, Same. Contracts of halfplaneref01: Same. -/
import Derived.Test.YthikonjlgljikaaGreatDoorIm417
namespace Go.Proofs.YthikonjlgljikaaGreatDoor
open Go.RowKit

theorem acc_minus {r : Nat → Nat} {i bw x y s bz : Nat} {a b : Nat → Nat} (h : vf r i + vf b i = vf a i + 4294967296 ^ i * bw) (hx : a i = x) (hy : b i = y) (hs : s + (bw + y) = x + 4294967296 * bz) :
    vf (upd r i s) (i + 1) + vf b (i + 1) = vf a (i + 1) + 4294967296 ^ (i + 1) * bz := by
  rw [vf, vf, vf, vf_upd_ge (Nat.le_refl _), show upd r i s i = s from by simp [upd], pow_succ', hx, hy]
  have h2 := congrArg (4294967296 ^ i * ·) hs
  simp only [Nat.mul_add] at h2
  rw [Nat.mul_left_comm] at h2
  rw [Nat.mul_assoc]
  omega
set_option maxHeartbeats 2000000 in
set_option maxRecDepth 100000 in
theorem c_rminus (p : Option Addr) (c n : Nat) (a : Nat → Nat) (q : Option Addr) (d m : Nat) (b : Nat → Nat) (w : World) (h1 : Dg w p c n a) (h2 : Dg w q d m b) (hn : n ≤ 17592186044410) (hmn : m ≤ n) (hle : vf b m ≤ vf a n) :
    Calls Tryz.prog 178 #[.slice p n c, .slice q m d] w fun e w' => RetD w' e n (vf a n - vf b m) ∧ Below w.heap.size w w' := by
  have H1 := Lib.hid h1
  have H2 := Lib.hid h2
  have HLE := Lib.hid hle
  clear h1 h2 hle
  go_enter Tryz.func178, Tryz.ntmps178
  go_wp2
  go_loopw [5, 6, 7] (fun v5 v6 v7 wr => ∃ i bw : Nat, i ≤ n ∧ v6 = .int .u64 bw ∧ v7 = .int .i64 i ∧ (bw : Int) ≤ 1 ∧ AccAt wr w.heap.size v5 i (fun r => vf r i + vf (ext b m) i = vf a i + 4294967296 ^ i * bw) ∧ Below w.heap.size w wr) (fun _ _ v7 _ => n - (intOf v7).toNat)
  case atStart => exact ⟨0, 0, Nat.zero_le _, rfl, rfl, by decide, ⟨fun _ => 0, ⟨rfl, .inl ⟨rfl, rfl⟩⟩, fun j hj => absurd hj (Nat.not_lt_zero _), by simp [vf]⟩, Below.refl _ _⟩
  case round =>
    obtain ⟨i, bw, hi, rfl, rfl, hbw, ⟨r, hown, hlt, hvl⟩, hb⟩ := hrel
    have HOW := Lib.hid hown
    have HLT := Lib.hid hlt
    have HVL := Lib.hid hvl
    have HB := Lib.hid hb
    clear hown hlt hvl hb
    by_cases hin : i < n
    · obtain ⟨g1, o1, rfl, hg1, hc1⟩ := H1.out.head (by omega)
      have c1 : wr.cell? ⟨g1, o1 + i, none⟩ = some (.int .u32 (a i : Nat)) := (HB.out.cell (p := ⟨g1, o1 + i, none⟩) hg1).trans (hc1 i (by omega))
      obtain ⟨x, hx⟩ : ∃ x, a i = x := ⟨_, rfl⟩
      rw [hx] at c1
      have HX := Lib.hid hx
      have hxl : (x : Int) < 4294967296 := by have := H1.out.lt i (by omega); omega
      clear hc1 hx
      by_cases him : i < m
      · skip
        obtain ⟨g2, o2, rfl, hg2, hc2⟩ := H2.out.head (by omega)
        have c2 : wr.cell? ⟨g2, o2 + i, none⟩ = some (.int .u32 (b i : Nat)) := (HB.out.cell (p := ⟨g2, o2 + i, none⟩) hg2).trans (hc2 i (by omega))
        have ey : ext b m i = b i := by unfold ext; rw [if_pos (by omega)]
        obtain ⟨y, hy⟩ : ∃ y, b i = y := ⟨_, rfl⟩
        rw [hy] at c2 ey
        have hyl : (y : Int) < 4294967296 := by have := H2.out.lt i (by omega); omega
        clear hc2 hy
        by_cases hlt : (x : Int) < ((bw : Int) + (y : Int))
        · skip
          obtain ⟨s, hs⟩ : ∃ s, x + 4294967296 - (bw + y) = s := ⟨_, rfl⟩
          have hsi : ((x : Int) + 4294967296 - ((bw : Int) + (y : Int))) % 4294967296 = (s : Nat) := by omega
          have hsi2 : (x : Int) + 4294967296 - ((bw : Int) + (y : Int)) = (s : Nat) := by omega
          have hsl : (s : Int) < 4294967296 := by omega
          have HV2 := Lib.hid (acc_minus (s := s) (bz := 1) HVL.out HX.out ey (by omega))
          have HLT2 := Lib.hid (upd_lt HLT.out (show s < 4294967296 by omega))
          clear hs ey
          go_wp2_with (at_builtin; refine wpl_app1 rfl (.tmp 38) (.tmp 43) _ 187 rfl u32U u32Row rfl (by decide) w.heap.size i _ (cells32 r i) [.int .u32 (s : Nat)] rfl HOW.out rfl rfl (one32 s) (by omega) (by omega) HB.out.size ?_; intro v' w' hown' hgr hat; have HO2 := Lib.hid (own_push hown'); have HB2 := Lib.hid (own_below HB.out HOW.out hgr (Nat.le_refl _) HB.out.size); clear hown' hgr hat)
          go_roundw
          case rel => exact ⟨i + 1, 1, by omega, rfl, by go_num, by decide, ⟨_, HO2.out, HLT2.out, HV2.out⟩, HB2.out⟩
          case measure => simp [intOf]; omega
        · skip
          obtain ⟨s, hs⟩ : ∃ s, x - (bw + y) = s := ⟨_, rfl⟩
          have hsi2 : (x : Int) - ((bw : Int) + (y : Int)) = (s : Nat) := by omega
          have hsl : (s : Int) < 4294967296 := by omega
          have hsi : (s : Int) % 4294967296 = (s : Nat) := by omega
          have HV2 := Lib.hid (acc_minus (s := s) (bz := 0) HVL.out HX.out ey (by omega))
          have HLT2 := Lib.hid (upd_lt HLT.out (show s < 4294967296 by omega))
          clear hs ey
          go_wp2_with (at_builtin; refine wpl_app1 rfl (.tmp 38) (.tmp 43) _ 187 rfl u32U u32Row rfl (by decide) w.heap.size i _ (cells32 r i) [.int .u32 (s : Nat)] rfl HOW.out rfl rfl (one32 s) (by omega) (by omega) HB.out.size ?_; intro v' w' hown' hgr hat; have HO2 := Lib.hid (own_push hown'); have HB2 := Lib.hid (own_below HB.out HOW.out hgr (Nat.le_refl _) HB.out.size); clear hown' hgr hat)
          go_roundw
          case rel => exact ⟨i + 1, 0, by omega, rfl, by go_num, by decide, ⟨_, HO2.out, HLT2.out, HV2.out⟩, HB2.out⟩
          case measure => simp [intOf]; omega
      · skip
        have ey : ext b m i = 0 := by unfold ext; rw [if_neg (by omega)]
        by_cases hlt : (x : Int) < (bw : Int)
        · skip
          obtain ⟨s, hs⟩ : ∃ s, x + 4294967296 - (bw + 0) = s := ⟨_, rfl⟩
          have hsi : ((x : Int) + 4294967296 - (bw : Int)) % 4294967296 = (s : Nat) := by omega
          have hsi2 : (x : Int) + 4294967296 - (bw : Int) = (s : Nat) := by omega
          have hsl : (s : Int) < 4294967296 := by omega
          have HV2 := Lib.hid (acc_minus (s := s) (bz := 1) HVL.out HX.out ey (by omega))
          have HLT2 := Lib.hid (upd_lt HLT.out (show s < 4294967296 by omega))
          clear hs ey
          go_wp2_with (at_builtin; refine wpl_app1 rfl (.tmp 38) (.tmp 43) _ 187 rfl u32U u32Row rfl (by decide) w.heap.size i _ (cells32 r i) [.int .u32 (s : Nat)] rfl HOW.out rfl rfl (one32 s) (by omega) (by omega) HB.out.size ?_; intro v' w' hown' hgr hat; have HO2 := Lib.hid (own_push hown'); have HB2 := Lib.hid (own_below HB.out HOW.out hgr (Nat.le_refl _) HB.out.size); clear hown' hgr hat)
          go_roundw
          case rel => exact ⟨i + 1, 1, by omega, rfl, by go_num, by decide, ⟨_, HO2.out, HLT2.out, HV2.out⟩, HB2.out⟩
          case measure => simp [intOf]; omega
        · skip
          obtain ⟨s, hs⟩ : ∃ s, x - (bw + 0) = s := ⟨_, rfl⟩
          have hsi2 : (x : Int) - (bw : Int) = (s : Nat) := by omega
          have hsl : (s : Int) < 4294967296 := by omega
          have hsi : (s : Int) % 4294967296 = (s : Nat) := by omega
          have HV2 := Lib.hid (acc_minus (s := s) (bz := 0) HVL.out HX.out ey (by omega))
          have HLT2 := Lib.hid (upd_lt HLT.out (show s < 4294967296 by omega))
          clear hs ey
          go_wp2_with (at_builtin; refine wpl_app1 rfl (.tmp 38) (.tmp 43) _ 187 rfl u32U u32Row rfl (by decide) w.heap.size i _ (cells32 r i) [.int .u32 (s : Nat)] rfl HOW.out rfl rfl (one32 s) (by omega) (by omega) HB.out.size ?_; intro v' w' hown' hgr hat; have HO2 := Lib.hid (own_push hown'); have HB2 := Lib.hid (own_below HB.out HOW.out hgr (Nat.le_refl _) HB.out.size); clear hown' hgr hat)
          go_roundw
          case rel => exact ⟨i + 1, 0, by omega, rfl, by go_num, by decide, ⟨_, HO2.out, HLT2.out, HV2.out⟩, HB2.out⟩
          case measure => simp [intOf]; omega
    · obtain rfl : i = n := by omega
      have HF := Lib.hid (show vf r i = vf a i - vf b m by
        have h := HVL.out
        rw [ext_vf b hmn] at h
        have hle := HLE.out
        have h1 := vf_lt HLT.out
        rcases Nat.lt_or_ge 0 bw with h2 | h2
        · exfalso
          obtain rfl : bw = 1 := by omega
          rw [Nat.mul_one] at h
          omega
        · obtain rfl : bw = 0 := by omega
          rw [Nat.mul_zero] at h
          omega)
      obtain ⟨p9, c9, rfl, hd9⟩ := Dg.of_own HOW.out HLT.out
      have HD9 := Lib.hid hd9
      clear hd9
      go_wp2
      go_ret
      exact ⟨⟨p9, c9, _, rfl, HD9.out, HF.out⟩, HB.out⟩
end Go.Proofs.YthikonjlgljikaaGreatDoor
namespace Go.Proofs.YthikonjlgljikaaGreatDoor
open Go.RowKit

set_option maxHeartbeats 1000000 in
set_option maxRecDepth 100000 in
theorem c_rNeg (s : Bool) (p : Option Addr) (n c : Nat) (z : Int) (w : World) (h : Zr w s p n c z) (hn : n ≤ 35184372088830) :
    Calls Tryz.prog 113 #[.agg #[.bool s, .slice p n c]] w fun e w' => RetZ w' e (-z) ∧ Below w.heap.size w w' := by
  obtain ⟨a, hd, hz⟩ := h
  have HC := Lib.hid (fun w1 (hb : Below w.heap.size w w1) => c_rsigned (!s) p c n a w1 (hd.keep hb) hn)
  have HV := Lib.hid (show sg (!s) (vf a n) = -z by rw [sg_not, hz])
  clear hd hz
  go_enter Tryz.func113, Tryz.ntmps113
  go_wp2_with fail
  obtain ⟨w0, hw0⟩ : ∃ w0, (w.alloc (.cells #[.bool s, .slice p n c] 33)).alloc (.cells #[.bool false, .slice none 0 0] 33) = w0 := ⟨_, rfl⟩
  rw [hw0]
  obtain ⟨X0, X1, hb0⟩ := box2 w #[.bool s, .slice p n c] 33 #[.bool false, .slice none 0 0] 33
  rw [hw0] at X0 X1 hb0
  have HX1 := Lib.hid X1
  have HB0 := Lib.hid hb0
  clear hw0 X0 X1 hb0
  refine (HC.out _ HB0.out).mono ?_
  rintro e w2 ⟨⟨s2, p2, n2, c2, rfl, hz2⟩, hb2⟩
  have HVR := Lib.hid (Var2.of (HX1.out.below_ hb2 HX1.out.lt) (NotInt.bool _) (NotInt.slice _ _ _))
  have HB2 := Lib.hid (HB0.out.trans (hb2.mono HB0.out.size))
  clear hb2 HX1 HB0 HC
  obtain ⟨⟨u0, hu0⟩, ⟨u1, hu1⟩⟩ := HVR.out.cells
  have f0 := HVR.out.free 0
  have f1 := HVR.out.free 1
  have hz3 := hz2.put2 HVR.out.sts 0 1 (.bool s2) (.slice p2 n2 c2) (NotInt.bool _)
  have hb3 : Below w.heap.size w ((w2.setCell ⟨w.heap.size + 1, 0, none⟩ (.bool s2)).setCell ⟨w.heap.size + 1, 1, none⟩ (.slice p2 n2 c2)) := (HB2.out.setCell (by show w.heap.size ≤ w.heap.size + 1; omega) _).setCell (by show w.heap.size ≤ w.heap.size + 1; omega) _
  have HZ3 := Lib.hid hz3
  have HB3 := Lib.hid hb3
  clear hz2 hz3 hb3
  go_wp2
  try simp only [Exit.inBlock, Exit.then]
  refine bodyPost_ret (by simp [results, Tryz.results113, go_sem, hu0, hu1]; try rfl) rfl ?_
  exact ⟨⟨s2, p2, n2, c2, rfl, HV.out ▸ HZ3.out⟩, HB3.out⟩
set_option maxHeartbeats 1000000 in
set_option maxRecDepth 100000 in
theorem c_rAbs (s : Bool) (p : Option Addr) (n c : Nat) (z : Int) (w : World) (h : Zr w s p n c z) (hn : n ≤ 35184372088830) :
    Calls Tryz.prog 204 #[.agg #[.bool s, .slice p n c]] w fun e w' => RetZ w' e ((z.natAbs : Int)) ∧ Below w.heap.size w w' := by
  obtain ⟨a, hd, hz⟩ := h
  have HC := Lib.hid (fun w1 (hb : Below w.heap.size w w1) => c_rsigned (false) p c n a w1 (hd.keep hb) hn)
  have HV := Lib.hid (show sg (false) (vf a n) = (z.natAbs : Int) by rw [← hz, sg_abs]; rfl)
  clear hd hz
  go_enter Tryz.func204, Tryz.ntmps204
  go_wp2_with fail
  obtain ⟨w0, hw0⟩ : ∃ w0, (w.alloc (.cells #[.bool s, .slice p n c] 33)).alloc (.cells #[.bool false, .slice none 0 0] 33) = w0 := ⟨_, rfl⟩
  rw [hw0]
  obtain ⟨X0, X1, hb0⟩ := box2 w #[.bool s, .slice p n c] 33 #[.bool false, .slice none 0 0] 33
  rw [hw0] at X0 X1 hb0
  have HX1 := Lib.hid X1
  have HB0 := Lib.hid hb0
  clear hw0 X0 X1 hb0
  refine (HC.out _ HB0.out).mono ?_
  rintro e w2 ⟨⟨s2, p2, n2, c2, rfl, hz2⟩, hb2⟩
  have HVR := Lib.hid (Var2.of (HX1.out.below_ hb2 HX1.out.lt) (NotInt.bool _) (NotInt.slice _ _ _))
  have HB2 := Lib.hid (HB0.out.trans (hb2.mono HB0.out.size))
  clear hb2 HX1 HB0 HC
  obtain ⟨⟨u0, hu0⟩, ⟨u1, hu1⟩⟩ := HVR.out.cells
  have f0 := HVR.out.free 0
  have f1 := HVR.out.free 1
  have hz3 := hz2.put2 HVR.out.sts 0 1 (.bool s2) (.slice p2 n2 c2) (NotInt.bool _)
  have hb3 : Below w.heap.size w ((w2.setCell ⟨w.heap.size + 1, 0, none⟩ (.bool s2)).setCell ⟨w.heap.size + 1, 1, none⟩ (.slice p2 n2 c2)) := (HB2.out.setCell (by show w.heap.size ≤ w.heap.size + 1; omega) _).setCell (by show w.heap.size ≤ w.heap.size + 1; omega) _
  have HZ3 := Lib.hid hz3
  have HB3 := Lib.hid hb3
  clear hz2 hz3 hb3
  go_wp2
  try simp only [Exit.inBlock, Exit.then]
  refine bodyPost_ret (by simp [results, Tryz.results204, go_sem, hu0, hu1]; try rfl) rfl ?_
  exact ⟨⟨s2, p2, n2, c2, rfl, HV.out ▸ HZ3.out⟩, HB3.out⟩
set_option maxHeartbeats 1000000 in
set_option maxRecDepth 100000 in
theorem c_rword (p : Option Addr) (c n : Nat) (a : Nat → Nat) (w : World) (h : Dg w p c n a) (hn : n ≤ 2) :
    Calls Tryz.prog 205 #[.slice p n c] w fun e w' => e = .returned (.int .u64 (vf a n : Nat)) ∧ w' = w := by
  by_cases h0 : n = 0
  · subst h0
    clear h hn
    go_enter Tryz.func205, Tryz.ntmps205
    go_wp2
    refine wp_loop_rounds 1 ?_
    rw [rounds_succ]
    go_wp2
    go_ret
    exact ⟨rfl, rfl⟩
  · obtain ⟨g, o, rfl, hg, hc⟩ := h.head (by omega)
    have l0 := h.lt 0 (by omega)
    have c0 := hc 0 (by omega)
    obtain ⟨x, hx⟩ : ∃ x, a 0 = x := ⟨_, rfl⟩
    rw [hx] at l0 c0
    rw [Nat.add_zero] at c0
    have hxi : (x : Int) < 4294967296 := by omega
    by_cases h1 : n = 1
    · subst h1
      have HV := Lib.hid (show vf a 1 = x by simp [vf, hx])
      clear hc h hx l0
      go_enter Tryz.func205, Tryz.ntmps205
      go_wp2
      go_rounds 2
      go_ret
      exact ⟨ret_i (by rw [HV.out]), rfl⟩
    · obtain rfl : n = 2 := by omega
      have l1 := h.lt 1 (by omega)
      have c1 := hc 1 (by omega)
      obtain ⟨y, hy⟩ : ∃ y, a 1 = y := ⟨_, rfl⟩
      rw [hy] at l1 c1
      have hyi : (y : Int) < 4294967296 := by omega
      have HV := Lib.hid (show vf a 2 = x + 4294967296 * y by simp [vf, hx, hy])
      clear hc h hx hy l0 l1
      go_enter Tryz.func205, Tryz.ntmps205
      go_wp2
      go_rounds 3
      go_ret
      exact ⟨ret_i (by rw [HV.out]; omega), rfl⟩
set_option maxHeartbeats 1000000 in
set_option maxRecDepth 100000 in
theorem c_rsplit (v : Nat) (w : World) (hv : v < 18446744073709551616) :
    Calls Tryz.prog 206 #[.int .u64 v] w fun e w' => RetN w' e v ∧ Below w.heap.size w w' := by
  obtain ⟨x, hx⟩ : ∃ x, v % 4294967296 = x := ⟨_, rfl⟩
  obtain ⟨y, hy⟩ : ∃ y, v / 4294967296 = y := ⟨_, rfl⟩
  have hxi : (v : Int) % 4294967296 = (x : Nat) := by omega
  have hyi : (v : Int) / 4294967296 = (y : Nat) := by omega
  have hyl : (y : Int) < 4294967296 := by omega
  have hym : (y : Int) % 4294967296 = (y : Nat) := by omega
  have hrow := (Row.alloc w #[.int .u32 x, .int .u32 y] 2 (dg v) rfl (fun i hi => by
    rcases Nat.lt_or_ge i 1 with h2 | h2
    · obtain rfl : i = 0 := by omega
      simp [dg]; omega
    · obtain rfl : i = 1 := by omega
      simp [dg]; omega) (fun i _ => dg_lt v i)).dg 2 (Nat.le_refl _)
  have HT := c_rtrim (some ⟨w.heap.size, 0, none⟩) 2 2 (dg v) _ hrow (by omega)
  rw [vf_dg (show v < 4294967296 ^ 2 by omega)] at HT
  replace HT := Lib.hid HT
  have HB := Lib.hid ((Below.refl w.heap.size w).alloc (Nat.le_refl _) (.cells #[.int .u32 x, .int .u32 y] 187))
  clear hrow hx hy hv
  go_enter Tryz.func206, Tryz.ntmps206
  go_wp2_with fail
  refine HT.out.mono ?_
  rintro e w2 ⟨⟨p2, c2, rfl, hm⟩, hb2⟩
  obtain ⟨k, hk⟩ : ∃ k, nd v = k := ⟨_, rfl⟩
  rw [hk]
  have HK := Lib.hid hk
  have HM := Lib.hid hm
  have HB2 := Lib.hid (HB.out.trans (hb2.mono HB.out.size))
  clear hk hm hb2 HT HB
  go_wp2
  go_ret
  exact ⟨⟨p2, c2, by rw [HK.out]; rfl, HM.out⟩, HB2.out⟩
end Go.Proofs.YthikonjlgljikaaGreatDoor
namespace Go.Proofs.YthikonjlgljikaaGreatDoor
open Go.RowKit

theorem dg_inj {u v n : Nat} (hu : nd u = n) (hv : nd v = n) (h : ∀ j, j < n → dg u j = dg v j) : u = v := by
  have h1 := vf_nd u
  have h2 := vf_nd v
  rw [hu] at h1
  rw [hv] at h2
  rw [← h1, ← h2]
  exact vf_congr h
set_option maxHeartbeats 1000000 in
set_option maxRecDepth 100000 in
theorem c_rSame (s : Bool) (p : Option Addr) (n c : Nat) (x : Int) (t : Bool) (q : Option Addr) (m d : Nat) (y : Int) (w : World) (h : Zs w s p n c x) (h' : Zs w t q m d y) (hn : n ≤ 35184372088830) :
    Calls Tryz.prog 161 #[.agg #[.bool s, .slice p n c], .agg #[.bool t, .slice q m d]] w fun e w' => e = .returned (.bool (decide (x = y))) ∧ Below w.heap.size w w' := by
  obtain ⟨r, hr⟩ : ∃ r, decide (x = y) = r := ⟨_, rfl⟩
  rw [hr]
  obtain ⟨hs, hnn, hnm⟩ := h
  obtain ⟨ht, hmm, hmn⟩ := h'
  unfold Nm at hnm hmn
  rw [hnn] at hnm
  rw [hmm] at hmn
  have HR := Lib.hid hr
  have HS := Lib.hid hs
  have HT := Lib.hid ht
  have HN := Lib.hid hnn
  have HM := Lib.hid hmm
  have HX := Lib.hid hnm
  have HY := Lib.hid hmn
  have HB0 := Lib.hid (((Below.refl w.heap.size w).alloc (Nat.le_refl _) (.cells #[.bool s, .slice p n c] 33)).alloc (by simp) (.cells #[.bool t, .slice q m d] 33))
  clear hr hs ht hnn hmm hnm hmn
  by_cases hst : s = t
  · by_cases hnm : n = m
    · subst hst hnm
      go_enter Tryz.func161, Tryz.ntmps161
      go_wp2
      obtain ⟨w0, hw0⟩ : ∃ w0, (w.alloc (.cells #[.bool s, .slice p n c] 33)).alloc (.cells #[.bool s, .slice q n d] 33) = w0 := ⟨_, rfl⟩
      rw [hw0]
      rw [hw0] at HB0
      obtain ⟨X0, X1, _⟩ := box2 w #[.bool s, .slice p n c] 33 #[.bool s, .slice q n d] 33
      rw [hw0] at X0 X1
      have a1 := X0.at_ 1 rfl
      have b1 := X1.at_ 1 rfl
      clear X0 X1 hw0
      go_loopw [5] (fun v5 wr => ∃ i : Nat, i ≤ n ∧ v5 = .int .i64 i ∧ (∀ j, j < i → dg x.natAbs j = dg y.natAbs j) ∧ ∃ k, wr = w0.drewN k) (fun v5 _ => n - (intOf v5).toNat)
      case atStart => exact ⟨0, Nat.zero_le _, rfl, fun j hj => absurd hj (Nat.not_lt_zero _), 0, rfl⟩
      case round =>
        obtain ⟨i, hi, rfl, heq, mr, rfl⟩ := hrel
        have HE := Lib.hid heq
        clear heq
        by_cases hin : i < n
        · obtain ⟨g1, o1, rfl, hg1, hc1⟩ := HX.out.head (by omega)
          obtain ⟨g2, o2, rfl, hg2, hc2⟩ := HY.out.head (by omega)
          have c1 : w0.cell? ⟨g1, o1 + i, none⟩ = some (.int .u32 (dg x.natAbs i : Nat)) := (HB0.out.cell (p := ⟨g1, o1 + i, none⟩) hg1).trans (hc1 i hin)
          have c2 : w0.cell? ⟨g2, o2 + i, none⟩ = some (.int .u32 (dg y.natAbs i : Nat)) := (HB0.out.cell (p := ⟨g2, o2 + i, none⟩) hg2).trans (hc2 i hin)
          obtain ⟨u, hu⟩ : ∃ u, dg x.natAbs i = u := ⟨_, rfl⟩
          obtain ⟨v, hv⟩ : ∃ v, dg y.natAbs i = v := ⟨_, rfl⟩
          rw [hu] at c1
          rw [hv] at c2
          have HU := Lib.hid hu
          have HV := Lib.hid hv
          clear hc1 hc2 hu hv
          by_cases huv : u = v
          · subst huv
            go_wp2
            go_quiet (fail)
            go_wp2
            go_roundw
            case rel => exact ⟨i + 1, by omega, by go_num, fun j hj => by
              rcases Nat.lt_or_ge j i with h3 | h3
              · exact HE.out j h3
              · rw [show j = i from by omega, HU.out, HV.out], _, by first | rfl | rw [dr2]⟩
            case measure => simp [intOf]; omega
          · have hub : ((u : Int) != (v : Int)) = true := by rw [bne_iff_ne]; omega
            have HF := Lib.hid (show false = r by
              rw [← HR.out]
              refine (decide_eq_false fun h => huv ?_).symm
              rw [← HU.out, ← HV.out, h])
            clear huv
            go_wp2
            go_quiet (fail)
            go_wp2
            go_ret
            exact ⟨by rw [← HF.out]; rfl, by first | exact below_drewN' (below_drewN' HB0.out _) _ | exact below_drewN' HB0.out _⟩
        · obtain rfl : i = n := by omega
          have HF := Lib.hid (show true = r by
            rw [← HR.out]
            refine (decide_eq_true ?_).symm
            have h1 := dg_inj HN.out HM.out HE.out
            have h2 := HS.out
            rw [HT.out, decide_eq_decide] at h2
            omega)
          go_wp2
          go_ret
          exact ⟨by rw [← HF.out]; rfl, below_drewN' HB0.out _⟩
    · subst hst
      have hnb : ((n : Int) != (m : Int)) = true := by rw [bne_iff_ne]; omega
      have HF := Lib.hid (show false = r by
        rw [← HR.out]
        exact (decide_eq_false fun h => hnm (by rw [← HN.out, ← HM.out, h])).symm)
      clear hnm
      go_enter Tryz.func161, Tryz.ntmps161
      go_wp2
      go_ret
      exact ⟨by rw [← HF.out]; rfl, HB0.out⟩
  · obtain rfl : t = !s := by cases s <;> cases t <;> simp_all
    have hsb : (s != !s) = true := by cases s <;> rfl
    have HF := Lib.hid (show false = r by
      rw [← HR.out]
      refine (decide_eq_false fun h => ?_).symm
      have h1 := HS.out
      have h2 := HT.out
      rw [← h, ← h1] at h2
      cases s <;> cases h2)
    clear hst
    go_enter Tryz.func161, Tryz.ntmps161
    go_wp2
    go_ret
    exact ⟨by rw [← HF.out]; rfl, HB0.out⟩
end Go.Proofs.YthikonjlgljikaaGreatDoor
