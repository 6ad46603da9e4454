/- Contracts of math/bits.Add32, Sub32 and of bigint's plus and less. -/
import Derived.Test.YthikonjlgljikaaGreatDoorLs07
import Derived.Laws.BitsAllLaws
namespace Go.Proofs.YthikonjlgljikaaGreatDoor
open Go.RowKit

set_option maxRecDepth 100000 in
theorem c_Add32 (x y z : Nat) (w : World) (hx : (x : Int) < 4294967296) (hy : (y : Int) < 4294967296) (hz : (z : Int) < 4294967296) :
    Calls Tryz.prog 210 #[.int .u32 x, .int .u32 y, .int .u32 z] w fun e w' => e = .returned (.tuple #[.int .u32 ((x + y + z) % 4294967296 : Nat), .int .u32 ((x + y + z) / 4294967296 : Nat)]) ∧ w' = w := by
  have em : ((x : Int) + (y : Int) + (z : Int)) / 4294967296 % 4294967296 = ((x : Int) + (y : Int) + (z : Int)) / 4294967296 := by omega
  go_enter Tryz.func210, Tryz.ntmps210
  go_wp2
  go_ret2
  exact ⟨by simp, rfl⟩
theorem top_bit (n : Nat) (h : n < 4294967296) : n / 2147483648 = if n.testBit 31 then 1 else 0 := by
  rw [Nat.testBit_eq_decide_div_mod_eq]
  have e : (2 : Nat) ^ 31 = 2147483648 := by decide
  rw [e]
  simp only [decide_eq_true_eq]
  split <;> omega
theorem bit_top (n : Nat) (h : n < 4294967296) : n.testBit 31 = decide (2147483648 ≤ n) := by
  rw [Nat.testBit_eq_decide_div_mod_eq]
  have e : (2 : Nat) ^ 31 = 2147483648 := by decide
  rw [e]
  rw [decide_eq_decide]
  omega
theorem borrowN (x y z d : Nat) (hx : x < 4294967296) (hy : y < 4294967296) (hz : z ≤ 1) (hd : (d : Int) = ((x : Int) - y - z) % 4294967296) :
    (((4294967295 ^^^ x) &&& y) ||| ((4294967295 ^^^ (x ^^^ y)) &&& d)) / 2147483648 = if x < y + z then 1 else 0 := by
  have hd2 : d < 4294967296 := by omega
  have e : (4294967296 : Nat) = 2 ^ 32 := by decide
  have h1 : ((4294967295 ^^^ x) &&& y) < 2 ^ 32 := Nat.and_lt_two_pow _ (by omega)
  have h2 : ((4294967295 ^^^ (x ^^^ y)) &&& d) < 2 ^ 32 := Nat.and_lt_two_pow _ (by omega)
  have h3 := Nat.or_lt_two_pow h1 h2
  rw [top_bit _ (by omega), Nat.testBit_or, Nat.testBit_and, Nat.testBit_and, Nat.testBit_xor, Nat.testBit_xor, Nat.testBit_xor, bit_top x hx, bit_top y hy, bit_top d hd2, show (4294967295 : Nat).testBit 31 = true from by decide]
  clear h1 h2 h3 e
  by_cases a1 : 2147483648 ≤ x <;> by_cases a2 : 2147483648 ≤ y <;> by_cases a3 : 2147483648 ≤ d <;> simp only [a1, a2, a3, decide_true, decide_false, Bool.xor_true, Bool.xor_false, Bool.not_true, Bool.not_false, Bool.and_true, Bool.and_false, Bool.or_true, Bool.or_false, if_true, Bool.false_eq_true, if_false] <;> split <;> first | rfl | (exfalso; omega) | omega
theorem borrowI (x y z : Nat) (hx : x < 4294967296) (hy : y < 4294967296) (hz : z ≤ 1) :
    bits .or .u32 (bits .and .u32 (bits .xor .u32 (if IntKind.u32.signed = true then -1 else IntKind.u32.max) (x : Int)) (y : Int)) (bits .and .u32 (bits .xor .u32 (if IntKind.u32.signed = true then -1 else IntKind.u32.max) (bits .xor .u32 (x : Int) (y : Int))) (((x : Int) - y - z) % 4294967296)) / 2147483648 = if x < y + z then 1 else 0 := by
  obtain ⟨d, hd⟩ : ∃ d : Nat, (d : Int) = ((x : Int) - y - z) % 4294967296 := ⟨(((x : Int) - y - z) % 4294967296).toNat, by omega⟩
  have e1 : (if IntKind.u32.signed = true then (-1 : Int) else IntKind.u32.max) = ((4294967295 : Nat) : Int) := by decide
  have e : (4294967296 : Nat) = 2 ^ 32 := by decide
  have h1 : x ^^^ y < 4294967296 := by rw [e]; exact Nat.xor_lt_two_pow (by omega) (by omega)
  have h2 : 4294967295 ^^^ x < 4294967296 := by rw [e]; exact Nat.xor_lt_two_pow (by omega) (by omega)
  have h3 : 4294967295 ^^^ (x ^^^ y) < 4294967296 := by rw [e]; exact Nat.xor_lt_two_pow (by omega) (by omega)
  have h4 : (4294967295 ^^^ x) &&& y < 4294967296 := by rw [e]; exact Nat.and_lt_two_pow _ (by omega)
  have h5 : (4294967295 ^^^ (x ^^^ y)) &&& d < 4294967296 := by rw [e]; exact Nat.and_lt_two_pow _ (by omega)
  rw [← hd, e1, u32_xor_nat _ _ (by omega) hx, u32_xor_nat _ _ hx hy, u32_xor_nat _ _ (by omega) h1, u32_and_nat _ _ h2 hy, u32_and_nat _ _ h3 (by omega), u32_or_nat _ _ h4 h5]
  have := borrowN x y z d hx hy hz hd
  have e2 := congrArg (Int.ofNat) this
  split at e2
  · rename_i hh; rw [if_pos hh]; simpa using e2
  · rename_i hh; rw [if_neg hh]; simpa using e2
set_option maxRecDepth 100000 in
theorem c_Sub32 (x y z : Nat) (w : World) (hx : (x : Int) < 4294967296) (hy : (y : Int) < 4294967296) (hz : (z : Int) ≤ 1) :
    Calls Tryz.prog 212 #[.int .u32 x, .int .u32 y, .int .u32 z] w fun e w' => e = .returned (.tuple #[.int .u32 (((x : Int) - y - z) % 4294967296), .int .u32 (if x < y + z then 1 else 0)]) ∧ w' = w := by
  have hb := borrowI x y z (by omega) (by omega) (by omega)
  obtain ⟨b, hbb⟩ : ∃ b : Int, (if x < y + z then (1 : Int) else 0) = b := ⟨_, rfl⟩
  rw [hbb] at hb ⊢
  have HB := Lib.hid hb
  have e1 : ((((x : Int) - y) % 4294967296 - z) % 4294967296) = ((x : Int) - y - z) % 4294967296 := by omega
  clear hb hbb
  go_enter Tryz.func212, Tryz.ntmps212
  go_wp
  go_ret2
  refine ⟨?_, rfl⟩
  rw [← HB.out]
  first | rfl | (rw [← e1]; rfl) | (simp [e1]; done)

/-- b, read as if it had as many digits as one likes. -/
def ext (b : Nat → Nat) (m : Nat) : Nat → Nat := fun j => if j < m then b j else 0
theorem ext_vf (b : Nat → Nat) {m n : Nat} (h : m ≤ n) : vf (ext b m) n = vf b m := by
  rw [vf_tail h (fun i h1 _ => by unfold ext; rw [if_neg (by omega)])]
  exact vf_congr fun i hi => by unfold ext; rw [if_pos hi]
/-- The state of an addition: i digits are done. -/
def PlusAt (w : World) (g : Nat) (n1 i : Nat) (t : Nat) (cy : Nat) : Prop := ∃ r, Row w g n1 r ∧ vf r i + 4294967296 ^ i * cy = t
theorem plus_step {w : World} {g n1 i cy x y s cz : Nat} {a b r : Nat → Nat} (hrow : Row w g n1 r) (hval : vf r i + 4294967296 ^ i * cy = vf a i + vf b i) (hx : a i = x) (hy : b i = y) (hs : (x + y + cy) % 4294967296 = s) (hcz : (x + y + cy) / 4294967296 = cz) :
    PlusAt (w.setCell ⟨g, i, none⟩ (.int .u32 s)) g n1 (i + 1) (vf a (i + 1) + vf b (i + 1)) cz := by
  refine ⟨_, hrow.set i s (by omega), ?_⟩
  rw [vf, vf, vf, vf_upd_ge (Nat.le_refl _), show upd r i s i = s from by simp [upd], pow_succ', hx, hy]
  have h : x + y + cy = s + 4294967296 * cz := by omega
  have h2 := congrArg (4294967296 ^ i * ·) h
  simp only [Nat.mul_add] at h2
  rw [Nat.mul_left_comm] at h2
  rw [Nat.mul_assoc]
  omega
set_option maxRecDepth 100000 in
theorem c_plus (p : Option Addr) (c n : Nat) (a : Nat → Nat) (q : Option Addr) (d m : Nat) (b : Nat → Nat) (w : World) (h1 : Dg w p c n a) (h2 : Dg w q d m b) (hn : n ≤ 70368744177660) (hm : m ≤ 70368744177660) :
    Calls Tryz.prog 180 #[.slice p n c, .slice q m d] w fun e w' => RetD w' e (max n m + 1) (vf a n + vf b m) ∧ Below w.heap.size w w' := by
  obtain ⟨T, hT⟩ : ∃ T, vf a n + vf b m = T := ⟨_, rfl⟩
  obtain ⟨M, hM⟩ : ∃ M, max n m + 1 = M := ⟨_, rfl⟩
  rw [hT, hM]
  have H1 := Lib.hid h1
  have H2 := Lib.hid h2
  have HT := Lib.hid hT
  have HM := Lib.hid hM
  clear h1 h2 hT hM
  go_enter Tryz.func180, Tryz.ntmps180
  go_upto_if 14 with (fail)
  go_cut [0, 1] (fun v0 v1 wc => wc = w ∧ ∃ p c n a q d m b, v0 = .slice p n c ∧ v1 = .slice q m d ∧ Dg w p c n a ∧ Dg w q d m b ∧ m ≤ n ∧ n ≤ 70368744177660 ∧ vf a n + vf b m = T ∧ n + 1 = M)
  case first =>
    by_cases hlt : (n : Int) < (m : Int)
    · have hx : m + 1 = M := by have := HM.out; omega
      have HX := Lib.hid hx
      clear hx
      go_wp2
      go_meet
      case rel => exact ⟨rfl, q, d, m, b, p, c, n, a, rfl, rfl, H2.out, H1.out, by omega, by omega, by rw [Nat.add_comm]; exact HT.out, HX.out⟩
    · have hx : n + 1 = M := by have := HM.out; omega
      have HX := Lib.hid hx
      clear hx
      go_wp2
      go_meet
      case rel => exact ⟨rfl, p, c, n, a, q, d, m, b, rfl, rfl, H1.out, H2.out, by omega, by omega, HT.out, HX.out⟩
  case rest =>
    clear H1 H2 HT HM hn hm p c n a q d m b
    obtain ⟨rfl, p, c, n, a, q, d, m, b, rfl, rfl, h1, h2, hmn, hn, hT, hM⟩ := hcut
    have hmk : ∀ w, (Instr.makeSlice 31 (.int .i64 ((n : Int) + 1)) (.int .i64 ((n : Int) + 1))).run Tryz.prog w = .ok (.slice (some ⟨w.heap.size, 0, none⟩) (n + 1) (n + 1)) (w.alloc (.cells (madeCells #[.int .u32 0] (n + 1)) 187)) := make32 (n + 1) (by omega)
    obtain ⟨B, hB⟩ : ∃ B, B = wc.heap.size := ⟨_, rfl⟩
    have hrow := Row.made wc (n + 1)
    have H1 := Lib.hid h1
    have H2 := Lib.hid h2
    have HT := Lib.hid hT
    have HM := Lib.hid hM
    have HR := Lib.hid hrow
    clear h1 h2 hT hM hrow
    go_wp2
    obtain ⟨wb, hwb⟩ : ∃ wb, wc.alloc (.cells (madeCells #[.int .u32 0] (n + 1)) 187) = wb := ⟨_, rfl⟩
    rw [hwb]
    have hbel : Below wc.heap.size wc wb := by rw [← hwb]; exact (Below.refl _ _).alloc (Nat.le_refl _) _
    rw [hwb] at HR
    have HB0 := Lib.hid hbel
    clear hwb hbel
    go_loopw [6, 23] (fun v6 v23 wr => ∃ i cy : Nat, i ≤ n ∧ v6 = .int .u32 cy ∧ v23 = .int .i64 i ∧ (cy : Int) ≤ 1 ∧ PlusAt wr wc.heap.size (n + 1) i (vf a i + vf (ext b m) i) cy ∧ Below wc.heap.size wc wr) (fun _ v23 _ => n - (intOf v23).toNat)
    case atStart => exact ⟨0, 0, Nat.zero_le _, rfl, rfl, by decide, ⟨_, HR.out, rfl⟩, HB0.out⟩
    case round =>
      obtain ⟨i, cy, hi, rfl, rfl, hcy, ⟨r, hrow, hval⟩, hb⟩ := hrel
      have HB := Lib.hid hb
      clear hb
      have hst : ∃ u, wr.cell? ⟨wc.heap.size, i, none⟩ = some u := ⟨_, hrow.1.cell (by omega)⟩
      obtain ⟨u, hst⟩ := hst
      have hfz : wr.frozen? ⟨wc.heap.size, i, none⟩ = false := hrow.1.frozen i
      by_cases hlt : (i : Int) < (n : Int)
      · obtain ⟨g1, o1, rfl, hg1, hc1⟩ := H1.out.head (by omega)
        have c1 : wr.cell? ⟨g1, o1 + i, none⟩ = _ := (HB.out.cell (p := ⟨g1, o1 + i, none⟩) hg1).trans (hc1 i (by omega))
        have hxl : ((a i : Nat) : Int) < 4294967296 := by have := H1.out.lt i (by omega); omega
        obtain ⟨x, hx⟩ : ∃ x, a i = x := ⟨_, rfl⟩
        rw [hx] at c1 hxl
        clear hc1
        by_cases hmi : (i : Int) < (m : Int)
        · obtain ⟨g2, o2, rfl, hg2, hc2⟩ := H2.out.head (by omega)
          have c2 : wr.cell? ⟨g2, o2 + i, none⟩ = _ := (HB.out.cell (p := ⟨g2, o2 + i, none⟩) hg2).trans (hc2 i (by omega))
          have hyl : ((b i : Nat) : Int) < 4294967296 := by have := H2.out.lt i (by omega); omega
          obtain ⟨y, hyb⟩ : ∃ y, b i = y := ⟨_, rfl⟩
          have hy : ext b m i = y := by unfold ext; rw [if_pos (by omega)]; exact hyb
          rw [hyb] at c2 hyl
          clear hc2 hyb
          have HC := c_Add32 x y cy wr (by omega) (by omega) (by omega)
          obtain ⟨s, hs⟩ : ∃ s, (x + y + cy) % 4294967296 = s := ⟨_, rfl⟩
          obtain ⟨cz, hcz⟩ : ∃ cz, (x + y + cy) / 4294967296 = cz := ⟨_, rfl⟩
          rw [hs, hcz] at HC
          have hsl : (s : Int) < 4294967296 := by omega
          have hcl : (cz : Int) ≤ 1 := by omega
          have hnew := plus_step hrow hval hx hy hs hcz
          have HN := Lib.hid hnew
          have HC := Lib.hid HC
          clear hnew hs hcz hx hy hval hrow
          go_wp2_with (go_at_call 210; refine HC.out.mono ?_; rintro e w' ⟨rfl, rfl⟩)
          go_roundw
          case rel => exact ⟨i + 1, cz, by omega, rfl, by go_num, hcl, HN.out, HB.out.setCell (Nat.le_refl _) _⟩
          case measure => simp [intOf]; omega
        · obtain ⟨y, hyb⟩ : ∃ y : Nat, 0 = y := ⟨_, rfl⟩
          have hy : ext b m i = y := by unfold ext; rw [if_neg (by omega)]; exact hyb
          subst hyb
          have hyl : ((0 : Nat) : Int) < 4294967296 := by decide
          have HC := c_Add32 x 0 cy wr (by omega) (by omega) (by omega)
          obtain ⟨s, hs⟩ : ∃ s, (x + 0 + cy) % 4294967296 = s := ⟨_, rfl⟩
          obtain ⟨cz, hcz⟩ : ∃ cz, (x + 0 + cy) / 4294967296 = cz := ⟨_, rfl⟩
          rw [hs, hcz] at HC
          have hsl : (s : Int) < 4294967296 := by omega
          have hcl : (cz : Int) ≤ 1 := by omega
          have hnew := plus_step hrow hval hx hy hs hcz
          have HN := Lib.hid hnew
          have HC := Lib.hid HC
          clear hnew hs hcz hx hy hval hrow
          go_wp2_with (go_at_call 210; refine HC.out.mono ?_; rintro e w' ⟨rfl, rfl⟩)
          go_roundw
          case rel => exact ⟨i + 1, cz, by omega, rfl, by go_num, hcl, HN.out, HB.out.setCell (Nat.le_refl _) _⟩
          case measure => simp [intOf]; omega
      · obtain rfl : i = n := by omega
        have hfin : Row (wr.setCell ⟨wc.heap.size, i, none⟩ (.int .u32 cy)) wc.heap.size (i + 1) (upd r i cy) := hrow.set i cy (by omega)
        have hsum : vf (upd r i cy) (i + 1) = T := by
          rw [vf, vf_upd_ge (Nat.le_refl _), show upd r i cy i = cy from by simp [upd], hval, ext_vf b hmn]
          exact HT.out
        have HF := Lib.hid hfin
        have HS := Lib.hid hsum
        have hM := HM.out
        clear hfin hsum hval hrow hcy
        go_wp2
        go_ret
        exact ⟨⟨_, _, _, by rw [← hM]; rfl, by rw [← hM]; exact HF.out.dg (i + 1) (Nat.le_refl _), by rw [← hM]; exact HS.out⟩, HB.out.setCell (Nat.le_refl _) _⟩

/-- The state of a subtraction: i digits are done. -/
def LessAt (w : World) (g n i : Nat) (t u : Nat) (cy : Nat) : Prop := ∃ r, Row w g n r ∧ vf r i + u = t + 4294967296 ^ i * cy
theorem less_step {w : World} {g n i cy x y : Nat} {s : Nat} {a b r : Nat → Nat} (hrow : Row w g n r) (hval : vf r i + vf b i = vf a i + 4294967296 ^ i * cy) (hx : a i = x) (hy : b i = y) (hxl : x < 4294967296) (hyl : y < 4294967296) (hcy : cy ≤ 1) (hs : (s : Int) = ((x : Int) - y - cy) % 4294967296) :
    LessAt (w.setCell ⟨g, i, none⟩ (.int .u32 s)) g n (i + 1) (vf a (i + 1)) (vf b (i + 1)) (if x < y + cy then 1 else 0) := by
  refine ⟨_, hrow.set i s (by omega), ?_⟩
  rw [vf, vf, vf, vf_upd_ge (Nat.le_refl _), show upd r i s i = s from by simp [upd], pow_succ', hx, hy]
  obtain ⟨k, hk⟩ : ∃ k, (if x < y + cy then 1 else 0) = k := ⟨_, rfl⟩
  rw [hk]
  have h : s + y + cy = x + 4294967296 * k := by split at hk <;> omega
  have h2 := congrArg (4294967296 ^ i * ·) h
  simp only [Nat.mul_add] at h2
  rw [Nat.mul_left_comm] at h2
  rw [Nat.mul_assoc]
  omega
set_option maxRecDepth 100000 in
theorem c_less (p : Option Addr) (c n : Nat) (a : Nat → Nat) (q : Option Addr) (d m : Nat) (b : Nat → Nat) (w : World) (h1 : Dg w p c n a) (h2 : Dg w q d m b) (hn : n ≤ 70368744177660) (hmn : m ≤ n) (hle : vf b m ≤ vf a n) :
    Calls Tryz.prog 182 #[.slice p n c, .slice q m d] w fun e w' => RetD w' e n (vf a n - vf b m) ∧ Below w.heap.size w w' := by
  have hmk : ∀ w, (Instr.makeSlice 31 (.int .i64 (n : Int)) (.int .i64 (n : Int))).run Tryz.prog w = .ok (.slice (some ⟨w.heap.size, 0, none⟩) n n) (w.alloc (.cells (madeCells #[.int .u32 0] n) 187)) := make32 n (by omega)
  have hrow := Row.made w n
  have H1 := Lib.hid h1
  have H2 := Lib.hid h2
  have HR := Lib.hid hrow
  have HL := Lib.hid hle
  clear h1 h2 hrow hle
  go_enter Tryz.func182, Tryz.ntmps182
  go_wp2
  obtain ⟨wb, hwb⟩ : ∃ wb, w.alloc (.cells (madeCells #[.int .u32 0] n) 187) = wb := ⟨_, rfl⟩
  rw [hwb]
  have hbel : Below w.heap.size w wb := by rw [← hwb]; exact (Below.refl _ _).alloc (Nat.le_refl _) _
  rw [hwb] at HR
  have HB0 := Lib.hid hbel
  clear hwb hbel
  go_loopw [6, 15] (fun v6 v23 wr => ∃ i cy : Nat, i ≤ n ∧ v6 = .int .u32 cy ∧ v23 = .int .i64 i ∧ (cy : Int) ≤ 1 ∧ LessAt wr w.heap.size n i (vf a i) (vf (ext b m) i) cy ∧ Below w.heap.size w wr) (fun _ v23 _ => n - (intOf v23).toNat)
  case atStart => exact ⟨0, 0, Nat.zero_le _, rfl, rfl, by decide, ⟨_, HR.out, rfl⟩, HB0.out⟩
  case round =>
    obtain ⟨i, cy, hi, rfl, rfl, hcy, ⟨r, hrow, hval⟩, hb⟩ := hrel
    have HB := Lib.hid hb
    clear hb
    by_cases hlt : (i : Int) < (n : Int)
    · have hst : ∃ u, wr.cell? ⟨w.heap.size, i, none⟩ = some u := ⟨_, hrow.1.cell (by omega)⟩
      obtain ⟨u, hst⟩ := hst
      have hfz : wr.frozen? ⟨w.heap.size, i, none⟩ = false := hrow.1.frozen i
      obtain ⟨g1, o1, rfl, hg1, hc1⟩ := H1.out.head (by omega)
      have c1 : wr.cell? ⟨g1, o1 + i, none⟩ = _ := (HB.out.cell (p := ⟨g1, o1 + i, none⟩) hg1).trans (hc1 i (by omega))
      have hxl : ((a i : Nat) : Int) < 4294967296 := by have := H1.out.lt i (by omega); omega
      obtain ⟨x, hx⟩ : ∃ x, a i = x := ⟨_, rfl⟩
      rw [hx] at c1 hxl
      clear hc1
      by_cases hmi : (i : Int) < (m : Int)
      · obtain ⟨g2, o2, rfl, hg2, hc2⟩ := H2.out.head (by omega)
        have c2 : wr.cell? ⟨g2, o2 + i, none⟩ = _ := (HB.out.cell (p := ⟨g2, o2 + i, none⟩) hg2).trans (hc2 i (by omega))
        have hyl : ((b i : Nat) : Int) < 4294967296 := by have := H2.out.lt i (by omega); omega
        obtain ⟨y, hyb⟩ : ∃ y, b i = y := ⟨_, rfl⟩
        have hy : ext b m i = y := by unfold ext; rw [if_pos (by omega)]; exact hyb
        rw [hyb] at c2 hyl
        clear hc2 hyb
        have HC := c_Sub32 x y cy wr (by omega) (by omega) hcy
        obtain ⟨s, hs⟩ : ∃ s : Nat, (s : Int) = ((x : Int) - y - cy) % 4294967296 := ⟨(((x : Int) - y - cy) % 4294967296).toNat, by omega⟩
        have hnew := less_step hrow hval hx hy (by omega) (by omega) (by omega) hs
        obtain ⟨cz, hcz⟩ : ∃ cz : Nat, (if x < y + cy then 1 else 0) = cz := ⟨_, rfl⟩
        have hczi : (if x < y + cy then (1 : Int) else 0) = (cz : Nat) := by rw [← hcz]; split <;> rfl
        have hcl : (cz : Int) ≤ 1 := by rw [← hczi]; split <;> decide
        rw [hcz] at hnew
        rw [← hs, hczi] at HC
        have HN := Lib.hid hnew
        have HC := Lib.hid HC
        clear hnew hs hcz hczi hx hy hval hrow
        go_wp2_with (go_at_call 212; refine HC.out.mono ?_; rintro e w' ⟨rfl, rfl⟩)
        go_roundw
        case rel => exact ⟨i + 1, cz, by omega, rfl, by go_num, hcl, HN.out, HB.out.setCell (Nat.le_refl _) _⟩
        case measure => simp [intOf]; omega
      · obtain ⟨y, hyb⟩ : ∃ y : Nat, 0 = y := ⟨_, rfl⟩
        have hy : ext b m i = y := by unfold ext; rw [if_neg (by omega)]; exact hyb
        subst hyb
        have hyl : ((0 : Nat) : Int) < 4294967296 := by decide
        have HC := c_Sub32 x 0 cy wr (by omega) (by omega) hcy
        obtain ⟨s, hs⟩ : ∃ s : Nat, (s : Int) = ((x : Int) - (0 : Nat) - cy) % 4294967296 := ⟨(((x : Int) - (0 : Nat) - cy) % 4294967296).toNat, by omega⟩
        have hnew := less_step hrow hval hx hy (by omega) (by omega) (by omega) hs
        obtain ⟨cz, hcz⟩ : ∃ cz : Nat, (if x < 0 + cy then 1 else 0) = cz := ⟨_, rfl⟩
        have hczi : (if x < 0 + cy then (1 : Int) else 0) = (cz : Nat) := by rw [← hcz]; split <;> rfl
        have hcl : (cz : Int) ≤ 1 := by rw [← hczi]; split <;> decide
        rw [hcz] at hnew
        rw [← hs, hczi] at HC
        have HN := Lib.hid hnew
        have HC := Lib.hid HC
        clear hnew hs hcz hczi hx hy hval hrow
        go_wp2_with (go_at_call 212; refine HC.out.mono ?_; rintro e w' ⟨rfl, rfl⟩)
        go_roundw
        case rel => exact ⟨i + 1, cz, by omega, rfl, by go_num, hcl, HN.out, HB.out.setCell (Nat.le_refl _) _⟩
        case measure => simp [intOf]; omega
    · obtain rfl : i = n := by omega
      have hfin := hrow.dg i (Nat.le_refl _)
      have hsum : vf r i = vf a i - vf b m := by
        rw [ext_vf b hmn] at hval
        have hle := HL.out
        have h1 := vf_lt hrow.2
        rcases Nat.lt_or_ge 0 cy with h | h
        · exfalso
          obtain rfl : cy = 1 := by omega
          omega
        · obtain rfl : cy = 0 := by omega
          omega
      have HF := Lib.hid hfin
      have HS := Lib.hid hsum
      clear hfin hsum hval hrow hcy
      go_wp2
      go_ret
      exact ⟨⟨_, _, _, rfl, HF.out, HS.out⟩, HB.out⟩
end Go.Proofs.YthikonjlgljikaaGreatDoor
