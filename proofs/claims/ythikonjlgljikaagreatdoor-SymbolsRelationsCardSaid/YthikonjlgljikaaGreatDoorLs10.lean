/- Contracts of bigint's shifted and unshifted. The estimate of a digit of a quotient (Knuth's algorithm D). No program in sight. -/
import Derived.Test.YthikonjlgljikaaGreatDoorLs09
namespace Go.Proofs.YthikonjlgljikaaGreatDoor
open Go.RowKit

theorem pow_split {s : Nat} (hs : s < 32) : (4294967296 : Nat) = 2 ^ s * 2 ^ (32 - s) := by
  rw [← Nat.pow_add, show s + (32 - s) = 32 from by omega]
theorem shl_mod (x s : Nat) (hs : s < 32) : x * 2 ^ s % 4294967296 = 2 ^ s * (x % 2 ^ (32 - s)) := by
  rw [pow_split hs, Nat.mul_comm x, Nat.mul_mod_mul_left]
theorem shl_lt (x s r : Nat) (hs : s < 32) (hr : r < 2 ^ s) : r + x * 2 ^ s % 4294967296 < 4294967296 := by
  rw [shl_mod x s hs]
  have h1 := Nat.mod_lt x (Nat.two_pow_pos (32 - s))
  have h2 := Nat.mul_le_mul_left (2 ^ s) (show x % 2 ^ (32 - s) + 1 ≤ 2 ^ (32 - s) from h1)
  rw [← pow_split hs, Nat.mul_add, Nat.mul_one] at h2
  omega
theorem shl_or (x s r : Nat) (hs : s < 32) (hr : r < 2 ^ s) : bits .or .u32 (r : Int) (((x * 2 ^ s : Nat) : Int) % 4294967296) = ((r + x * 2 ^ s % 4294967296 : Nat) : Int) := by
  have h1 := shl_lt x s r hs hr
  have h2 : ((x * 2 ^ s : Nat) : Int) % 4294967296 = ((x * 2 ^ s % 4294967296 : Nat) : Int) := by rw [Int.natCast_emod]; rfl
  rw [h2, u32_or_nat _ _ (by omega) (Nat.mod_lt _ (by omega)), Nat.or_comm, shl_mod x s hs, ← Nat.two_pow_add_eq_or_of_lt hr, Nat.add_comm]
theorem shl_top (x s : Nat) (hx : x < 4294967296) : x * 2 ^ s / 4294967296 < 2 ^ s := by
  rw [Nat.div_lt_iff_lt_mul (by omega), Nat.mul_comm]
  exact Nat.mul_lt_mul_of_pos_left hx (Nat.two_pow_pos s)
theorem two_pow_le {s : Nat} (hs : s < 32) : 2 ^ s ≤ 2147483648 := by
  have := Nat.pow_le_pow_right (show 0 < 2 by omega) (show s ≤ 31 by omega)
  omega
theorem shl_wrap (x s : Nat) (hs : s < 32) (hx : x < 4294967296) : IntKind.u64.wrap ((x : Int) * 2 ^ s) = ((x * 2 ^ s : Nat) : Int) := by
  have h1 : x * 2 ^ s ≤ 4294967295 * 2147483648 := Nat.mul_le_mul (by omega) (two_pow_le hs)
  have h2 : (x : Int) * 2 ^ s = ((x * 2 ^ s : Nat) : Int) := by rw [Int.natCast_mul, Int.natCast_pow]; rfl
  rw [h2, IntKind.wrap_u64]
  generalize x * 2 ^ s = t at *
  omega
/-- The state of a shift: k digits are done. -/
def ShiftAt (w : World) (g n1 k s t : Nat) : Prop := ∃ r, Row w g n1 r ∧ vf r (k + 1) = t * 2 ^ s ∧ r k < 2 ^ s
theorem shift_step {w : World} {g n1 k s x y z : Nat} {a r : Nat → Nat} (hrow : Row w g n1 r) (hv : vf r (k + 1) = vf a k * 2 ^ s) (hrs : r k < 2 ^ s) (hs : s < 32) (hx : a k = x) (hxl : x < 4294967296) (hy : r k + x * 2 ^ s % 4294967296 = y) (hz : x * 2 ^ s / 4294967296 = z) :
    ShiftAt ((w.setCell ⟨g, k, none⟩ (.int .u32 y)).setCell ⟨g, k + 1, none⟩ (.int .u32 z)) g n1 (k + 1) s (vf a (k + 1)) := by
  have h1 := shl_lt x s (r k) hs hrs
  have h2 := shl_top x s hxl
  have h3 := two_pow_le hs
  refine ⟨_, (hrow.set k y (by omega)).set (k + 1) z (by omega), ?_, by show (if k + 1 = k + 1 then z else _) < _; rw [if_pos rfl, ← hz]; exact h2⟩
  rw [vf, vf_upd_ge (Nat.le_refl _), vf, vf_upd_ge (Nat.le_refl _), show upd (upd r k y) (k + 1) z (k + 1) = z from by simp [upd], show upd r k y k = y from by simp [upd], vf, hx, Nat.add_mul, ← hv, vf, pow_succ']
  have h4 : x * 2 ^ s = x * 2 ^ s % 4294967296 + 4294967296 * z := by rw [← hz]; omega
  have h5 : 4294967296 ^ k * x * 2 ^ s = 4294967296 ^ k * (x * 2 ^ s % 4294967296) + 4294967296 * 4294967296 ^ k * z := by
    rw [Nat.mul_assoc, Nat.mul_comm 4294967296, Nat.mul_assoc, ← Nat.mul_add, ← h4]
  rw [h5, ← hy, Nat.mul_add]
  omega
/-- Own row of k digits of value t, returned as a slice from its head. -/
def RetR (B : Nat) (w' : World) (e : Ending) (k t : Nat) : Prop := ∃ g c r, e = .returned (.slice (some ⟨g, 0, none⟩) k c) ∧ k ≤ c ∧ B ≤ g ∧ Row w' g k r ∧ vf r k = t
set_option maxRecDepth 100000 in
theorem c_shifted (p : Option Addr) (c n : Nat) (a : Nat → Nat) (s : Nat) (w : World) (h1 : Dg w p c n a) (hn : n ≤ 70368744177660) (hs : (s : Int) < 32) :
    Calls Tryz.prog 222 #[.slice p n c, .int .u64 s] w fun e w' => RetR w.heap.size w' e (n + 1) (vf a n * 2 ^ s) ∧ Below w.heap.size w w' := by
  have hmk : ∀ w, (Instr.makeSlice 31 (.int .i64 ((n : Int) + 1)) (.int .i64 ((n : Int) + 1))).run Tryz.prog w = .ok (.slice (some ⟨w.heap.size, 0, none⟩) (n + 1) (n + 1)) (w.alloc (.cells (madeCells #[.int .u32 0] (n + 1)) 187)) := make32 (n + 1) (by omega)
  have hrow := Row.made w (n + 1)
  have H1 := Lib.hid h1
  have HR := Lib.hid hrow
  clear h1 hrow
  go_enter Tryz.func222, Tryz.ntmps222
  go_wp2
  obtain ⟨wb, hwb⟩ : ∃ wb, w.alloc (.cells (madeCells #[.int .u32 0] (n + 1)) 187) = wb := ⟨_, rfl⟩
  rw [hwb]
  have hbel : Below w.heap.size w wb := by rw [← hwb]; exact (Below.refl _ _).alloc (Nat.le_refl _) _
  rw [hwb] at HR
  have HB0 := Lib.hid hbel
  clear hwb hbel hmk
  go_loopw [15] (fun v15 wr => ∃ k : Nat, k ≤ n ∧ v15 = .int .i64 k ∧ ShiftAt wr w.heap.size (n + 1) k s (vf a k) ∧ Below w.heap.size w wr) (fun v15 _ => n - (intOf v15).toNat)
  case atStart => exact ⟨0, Nat.zero_le _, rfl, ⟨_, HR.out, by simp [vf], Nat.two_pow_pos s⟩, HB0.out⟩
  case round =>
    obtain ⟨k, hk, rfl, ⟨r, hrow, hv, hrs⟩, hb⟩ := hrel
    have HB := Lib.hid hb
    have HV := Lib.hid hv
    have HRS := Lib.hid hrs
    clear hb hv hrs
    by_cases hlt : (k : Int) < (n : Int)
    · obtain ⟨g1, o1, rfl, hg1, hc1⟩ := H1.out.head (by omega)
      have c1 : wr.cell? ⟨g1, o1 + k, none⟩ = _ := (HB.out.cell (p := ⟨g1, o1 + k, none⟩) hg1).trans (hc1 k (by omega))
      have hxl : ((a k : Nat) : Int) < 4294967296 := by have := H1.out.lt k (by omega); omega
      obtain ⟨x, hx⟩ : ∃ x, a k = x := ⟨_, rfl⟩
      rw [hx] at c1 hxl
      have hst : wr.cell? ⟨w.heap.size, k, none⟩ = some (.int .u32 (r k : Nat)) := hrow.1.cell (by omega)
      have hfz : wr.frozen? ⟨w.heap.size, k, none⟩ = false := hrow.1.frozen _
      have hst1 : wr.cell? ⟨w.heap.size, k + 1, none⟩ = some (.int .u32 (r (k + 1) : Nat)) := hrow.1.cell (by omega)
      have hfz1 : wr.frozen? ⟨w.heap.size, k + 1, none⟩ = false := hrow.1.frozen _
      have hwr := shl_wrap x s (by omega) (by omega)
      have hor := shl_or x s (r k) (by omega) HRS.out
      have hnew := shift_step hrow HV.out HRS.out (by omega) hx (by omega) rfl rfl
      have hcut : ((x * 2 ^ s : Nat) : Int) / 4294967296 % 4294967296 = ((x * 2 ^ s / 4294967296 : Nat) : Int) := by
        have h1 := shl_top x s (by omega)
        have h2 := two_pow_le (s := s) (by omega)
        generalize x * 2 ^ s = t at *
        omega
      have HN := Lib.hid hnew
      have HW := Lib.hid hwr
      have HO := Lib.hid hor
      have HCU := Lib.hid hcut
      clear hnew hrow hc1 hx hwr hor hcut
      go_wp2
      rw [HW.out, HO.out, HCU.out]
      go_roundw
      case rel => exact ⟨k + 1, by omega, by go_num, HN.out, (HB.out.setCell (Nat.le_refl _) _).setCell (Nat.le_refl _) _⟩
      case measure => simp [intOf]; omega
    · obtain rfl : k = n := by omega
      go_wp2
      go_ret
      have hR : RetR w.heap.size wr (.returned (.slice (some ⟨w.heap.size, 0, none⟩) (k + 1) (k + 1))) (k + 1) (vf a k * 2 ^ s) := ⟨_, _, r, rfl, Nat.le_refl _, Nat.le_refl _, hrow, HV.out⟩
      exact ⟨hR, HB.out⟩
theorem vf_div {a : Nat → Nat} {n : Nat} (h : ∀ i, i < n → a i < 4294967296) {i : Nat} (hi : i ≤ n) : vf a n / 4294967296 ^ i = vf (shf a i) (n - i) := by
  obtain ⟨k, rfl⟩ : ∃ k, n = i + k := ⟨n - i, by omega⟩
  rw [vf_split, Nat.add_sub_cancel_left, Nat.add_mul_div_left _ _ (Dig.pow_pos i), Nat.div_eq_of_lt (vf_lt fun j hj => h j (by omega)), Nat.zero_add]
/-- Digit i of a quotient by 2^s. -/
theorem unshift_digit {a : Nat → Nat} {n s i : Nat} (h : ∀ i, i < n → a i < 4294967296) (hs : s < 32) (hi : i < n) : dg (vf a n / 2 ^ s) i = (a i + 4294967296 * ext a n (i + 1)) / 2 ^ s % 4294967296 := by
  unfold dg
  rw [Nat.div_div_eq_div_mul, Nat.mul_comm, ← Nat.div_div_eq_div_mul, vf_div h (Nat.le_of_lt hi)]
  obtain ⟨m, hm⟩ : ∃ m, n - i = m + 1 := ⟨n - i - 1, by omega⟩
  rw [hm, vf_head, show shf a i 0 = a i from rfl]
  have hz : ∃ Z, vf (shf (shf a i) 1) m = ext a n (i + 1) + 4294967296 * Z := by
    cases m with
    | zero => exact ⟨0, by unfold ext; rw [if_neg (by omega)]; rfl⟩
    | succ m => exact ⟨vf (shf (shf (shf a i) 1) 1) m, by rw [vf_head]; unfold ext; rw [if_pos (by omega)]; unfold shf; simp⟩
  obtain ⟨Z, hZ⟩ := hz
  rw [hZ]
  have e : a i + 4294967296 * (ext a n (i + 1) + 4294967296 * Z) = (a i + 4294967296 * ext a n (i + 1)) + 2 ^ s * (4294967296 * (2 ^ (32 - s) * Z)) := by
    have := pow_split hs
    rw [Nat.mul_add, show 2 ^ s * (4294967296 * (2 ^ (32 - s) * Z)) = (2 ^ s * 2 ^ (32 - s)) * (4294967296 * Z) from by simp only [Nat.mul_assoc, Nat.mul_comm, Nat.mul_left_comm], ← this]
    omega
  rw [e, Nat.add_mul_div_left _ _ (Nat.two_pow_pos s), Nat.add_mul_mod_self_left]
theorem un_or (x y : Nat) (hx : x < 4294967296) (hy : y < 4294967296) : bits .or .u64 (x : Int) ((y : Int) * 4294967296) = ((x + 4294967296 * y : Nat) : Int) := by
  rw [show (y : Int) * 4294967296 = ((2 ^ 32 * y : Nat) : Int) from by omega, bits_or_u64_nat _ _ (by omega) (by omega), Nat.or_comm, ← Nat.two_pow_add_eq_or_of_lt (show x < 2 ^ 32 from hx)]
  omega
theorem un_cast (t s : Nat) : ((t : Nat) : Int) / 2 ^ s % 4294967296 = ((t / 2 ^ s % 4294967296 : Nat) : Int) := by
  rw [Int.natCast_emod, Int.natCast_ediv, Int.natCast_pow]; rfl
/-- The state of a shift back: k digits of T are done. -/
def UnAt (w : World) (g n k T : Nat) : Prop := ∃ r, Row w g n r ∧ ∀ i, i < k → r i = dg T i
theorem un_step {w : World} {g n k T : Nat} {r : Nat → Nat} (hrow : Row w g n r) (hv : ∀ i, i < k → r i = dg T i) : UnAt (w.setCell ⟨g, k, none⟩ (.int .u32 (dg T k : Nat))) g n (k + 1) T :=
  ⟨_, hrow.set k _ (dg_lt T k), fun i hi => by
    unfold upd
    split
    · rename_i h; rw [h]
    · exact hv i (by omega)⟩
set_option maxRecDepth 100000 in
theorem c_unshifted (p : Option Addr) (c n : Nat) (a : Nat → Nat) (s : Nat) (w : World) (h1 : Dg w p c n a) (hn : n ≤ 70368744177660) (hs : (s : Int) < 32) :
    Calls Tryz.prog 224 #[.slice p n c, .int .u64 s] w fun e w' => RetD w' e n (vf a n / 2 ^ s) ∧ Below w.heap.size w w' := by
  have hmk : ∀ w, (Instr.makeSlice 31 (.int .i64 (n : Int)) (.int .i64 (n : Int))).run Tryz.prog w = .ok (.slice (some ⟨w.heap.size, 0, none⟩) n n) (w.alloc (.cells (madeCells #[.int .u32 0] n) 187)) := make32 n (by omega)
  have hrow := Row.made w n
  have H1 := Lib.hid h1
  have HR := Lib.hid hrow
  clear h1 hrow
  go_enter Tryz.func224, Tryz.ntmps224
  go_wp2
  obtain ⟨wb, hwb⟩ : ∃ wb, w.alloc (.cells (madeCells #[.int .u32 0] n) 187) = wb := ⟨_, rfl⟩
  rw [hwb]
  have hbel : Below w.heap.size w wb := by rw [← hwb]; exact (Below.refl _ _).alloc (Nat.le_refl _) _
  rw [hwb] at HR
  have HB0 := Lib.hid hbel
  clear hwb hbel hmk
  go_loopw [13] (fun v wr => ∃ k : Nat, k ≤ n ∧ v = .int .i64 k ∧ UnAt wr w.heap.size n k (vf a n / 2 ^ s) ∧ Below w.heap.size w wr) (fun v _ => n - (intOf v).toNat)
  case atStart => exact ⟨0, Nat.zero_le _, rfl, ⟨_, HR.out, fun i hi => absurd hi (Nat.not_lt_zero _)⟩, HB0.out⟩
  case round =>
    obtain ⟨k, hk, rfl, ⟨r, hrow, hv⟩, hb⟩ := hrel
    have HB := Lib.hid hb
    have HV := Lib.hid hv
    clear hb hv
    by_cases hlt : (k : Int) < (n : Int)
    · obtain ⟨g1, o1, rfl, hg1, hc1⟩ := H1.out.head (by omega)
      have c1 : wr.cell? ⟨g1, o1 + k, none⟩ = _ := (HB.out.cell (p := ⟨g1, o1 + k, none⟩) hg1).trans (hc1 k (by omega))
      have hxl : ((a k : Nat) : Int) < 4294967296 := by have := H1.out.lt k (by omega); omega
      obtain ⟨x, hx⟩ : ∃ x, a k = x := ⟨_, rfl⟩
      have hst : wr.cell? ⟨w.heap.size, k, none⟩ = some (.int .u32 (r k : Nat)) := hrow.1.cell (by omega)
      have hfz : wr.frozen? ⟨w.heap.size, k, none⟩ = false := hrow.1.frozen _
      have hd := unshift_digit (a := a) (n := n) (s := s) (i := k) H1.out.lt (by omega) (by omega)
      rw [hx] at c1 hxl hd
      by_cases hlt1 : (k : Int) + 1 < (n : Int)
      · have c2 : wr.cell? ⟨g1, o1 + (k + 1), none⟩ = _ := (HB.out.cell (p := ⟨g1, o1 + (k + 1), none⟩) hg1).trans (hc1 (k + 1) (by omega))
        have hyl : ((a (k + 1) : Nat) : Int) < 4294967296 := by have := H1.out.lt (k + 1) (by omega); omega
        obtain ⟨y, hy⟩ : ∃ y, a (k + 1) = y := ⟨_, rfl⟩
        rw [show ext a n (k + 1) = y from by unfold ext; rw [if_pos (by omega)]; exact hy] at hd
        rw [hy] at c2 hyl
        have e2 : ((k : Int) + 1).toNat = k + 1 := by omega
        have hor := un_or x y (by omega) (by omega)
        have hcs := un_cast (x + 4294967296 * y) s
        rw [← hd] at hcs
        have hnew := un_step hrow HV.out
        have HN := Lib.hid hnew
        have HO := Lib.hid hor
        have HCS := Lib.hid hcs
        clear hc1 hx hy hor hcs hnew hd hrow
        go_wp2
        rw [HO.out, HCS.out]
        go_roundw
        case rel => exact ⟨k + 1, by omega, by go_num, HN.out, HB.out.setCell (Nat.le_refl _) _⟩
        case measure => simp [intOf]; omega
      · rw [show ext a n (k + 1) = 0 from by unfold ext; rw [if_neg (by omega)]] at hd
        have hcs := un_cast x s
        rw [Nat.mul_zero, Nat.add_zero] at hd
        rw [← hd] at hcs
        have hnew := un_step hrow HV.out
        have HN := Lib.hid hnew
        have HCS := Lib.hid hcs
        clear hc1 hx hcs hnew hd hrow
        go_wp2
        rw [HCS.out]
        go_roundw
        case rel => exact ⟨k + 1, by omega, by go_num, HN.out, HB.out.setCell (Nat.le_refl _) _⟩
        case measure => simp [intOf]; omega
    · obtain rfl : k = n := by omega
      have hval : vf r k = vf a k / 2 ^ s := by
        rw [vf_congr HV.out, vf_dg]
        exact Nat.lt_of_le_of_lt (Nat.div_le_self _ _) (vf_lt H1.out.lt)
      have hR : RetD wr (.returned (.slice (some ⟨w.heap.size, 0, none⟩) k k)) k (vf a k / 2 ^ s) := ⟨_, _, r, rfl, hrow.dg _ (Nat.le_refl _), hval⟩
      have HF := Lib.hid hR
      clear hR hval hrow
      go_wp2
      go_ret
      exact ⟨HF.out, HB.out⟩
end Go.Proofs.YthikonjlgljikaaGreatDoor
namespace Go.Proofs.YthikonjlgljikaaGreatDoor.Kn

/-- What is known: the top digits of u (T the first two, u2 the third) and of v (v1, v2), the rest below P. -/
structure Tops (P lu lv T u2 v1 v2 U V : Nat) : Prop where
  hlu : lu < P
  hlv : lv < P
  hu2 : u2 < 4294967296
  hv2 : v2 < 4294967296
  hv1 : 2147483648 ≤ v1
  hU : U = lu + P * (u2 + 4294967296 * T)
  hV : V = lv + P * (v2 + 4294967296 * v1)
  hlt : U < V * 4294967296
section
variable {P lu lv T u2 v1 v2 U V : Nat}
theorem Tops.hP (h : Tops P lu lv T u2 v1 v2 U V) : 0 < P := by have := h.hlu; omega
theorem Tops.Vpos (h : Tops P lu lv T u2 v1 v2 U V) : 0 < V := by
  have h1 := h.hV
  have h2 := h.hP
  have h3 := h.hv1
  have h4 := Nat.mul_pos h2 (show 0 < v2 + 4294967296 * v1 by omega)
  omega
theorem Tops.Ult (h : Tops P lu lv T u2 v1 v2 U V) : U < (P * 4294967296) * (T + 1) := by
  have h1 := h.hU
  have h2 := h.hlu
  have h3 := Nat.mul_le_mul_left P (show u2 + 1 ≤ 4294967296 from h.hu2)
  rw [Nat.mul_add, Nat.mul_one] at h3
  rw [Nat.mul_add, ← Nat.mul_assoc] at h1
  rw [Nat.mul_add, Nat.mul_one]
  omega
theorem Tops.Vlt (h : Tops P lu lv T u2 v1 v2 U V) : V < (P * 4294967296) * (v1 + 1) := by
  have h1 := h.hV
  have h2 := h.hlv
  have h3 := Nat.mul_le_mul_left P (show v2 + 1 ≤ 4294967296 from h.hv2)
  rw [Nat.mul_add, Nat.mul_one] at h3
  rw [Nat.mul_add, ← Nat.mul_assoc] at h1
  rw [Nat.mul_add, Nat.mul_one]
  omega
theorem Tops.Vge (h : Tops P lu lv T u2 v1 v2 U V) : (P * 4294967296) * v1 ≤ V := by
  have h1 := h.hV
  rw [Nat.mul_add, ← Nat.mul_assoc] at h1
  omega
theorem Tops.Uge (h : Tops P lu lv T u2 v1 v2 U V) : (P * 4294967296) * T ≤ U := by
  have h1 := h.hU
  rw [Nat.mul_add, ← Nat.mul_assoc] at h1
  omega
theorem Tops.first (h : Tops P lu lv T u2 v1 v2 U V) : U / V ≤ T / v1 := by
  have h1 := Nat.div_mul_le_self U V
  have h2 := Nat.mul_le_mul_left (U / V) h.Vge
  have h3 := h.Ult
  have h4 := h.hv1
  have h5 := h.hP
  generalize U / V = Q at *
  rw [Nat.le_div_iff_mul_le (by omega)]
  have h6 : (P * 4294967296) * (Q * v1) < (P * 4294967296) * (T + 1) := by
    rw [show (P * 4294967296) * (Q * v1) = Q * ((P * 4294967296) * v1) from by grind]
    omega
  have h7 := Nat.lt_of_mul_lt_mul_left h6
  omega
theorem Tops.small (h : Tops P lu lv T u2 v1 v2 U V) : U / V < 4294967296 := (Nat.div_lt_iff_lt_mul h.Vpos).2 (by rw [Nat.mul_comm]; exact h.hlt)
theorem Tops.down (h : Tops P lu lv T u2 v1 v2 U V) {g r : Nat} (he : g * v1 + r = T) (ht : r * 4294967296 + u2 < g * v2) : U / V < g := by
  rw [Nat.div_lt_iff_lt_mul h.Vpos]
  have h1 : g * (P * (v2 + 4294967296 * v1)) ≤ g * V := Nat.mul_le_mul_left _ (by have := h.hV; omega)
  have h2 : g * (P * (v2 + 4294967296 * v1)) = P * (g * v2 + 4294967296 * (g * v1)) := by grind
  have h3 : P * (u2 + 4294967296 * T + 1) ≤ P * (g * v2 + 4294967296 * (g * v1)) := Nat.mul_le_mul_left _ (by omega)
  have h4 := h.hU
  have h5 := h.hlu
  rw [Nat.mul_add P _ 1, Nat.mul_one] at h3
  omega
theorem Tops.upA (h : Tops P lu lv T u2 v1 v2 U V) {g r : Nat} (he : g * v1 + r = T) (hg : g < 4294967296) (ht : g * v2 ≤ r * 4294967296 + u2) : g ≤ U / V + 1 := by
  have h1 : g * V = g * lv + P * (g * v2 + 4294967296 * (g * v1)) := by
    rw [h.hV, Nat.mul_add]
    have : g * (P * (v2 + 4294967296 * v1)) = P * (g * v2 + 4294967296 * (g * v1)) := by grind
    omega
  have h2 : P * (g * v2 + 4294967296 * (g * v1)) ≤ P * (u2 + 4294967296 * T) := Nat.mul_le_mul_left _ (by omega)
  have h3 : g * lv ≤ 4294967296 * P := Nat.mul_le_mul (by omega) (Nat.le_of_lt h.hlv)
  have h4 := h.Vge
  have h5 : (P * 4294967296) * 1 ≤ (P * 4294967296) * v1 := Nat.mul_le_mul_left _ (by have := h.hv1; omega)
  have h6 := h.hU
  have h7 : g * V ≤ U + V := by omega
  have h8 : (g - 1) * V ≤ U := by rw [Nat.sub_mul]; omega
  have h9 := (Nat.le_div_iff_mul_le h.Vpos).2 h8
  omega
theorem Tops.upB (h : Tops P lu lv T u2 v1 v2 U V) {g r : Nat} (he : g * v1 + r = T) (hg : g ≤ 4294967296) (hr : 4294967296 ≤ r) : g ≤ U / V := by
  rw [Nat.le_div_iff_mul_le h.Vpos]
  have h1 : g * V ≤ g * ((P * 4294967296) * (v1 + 1)) := Nat.mul_le_mul_left _ (Nat.le_of_lt h.Vlt)
  have h2 : g * ((P * 4294967296) * (v1 + 1)) = (P * 4294967296) * (g * v1 + g) := by grind
  have h3 : (P * 4294967296) * (g * v1 + g) ≤ (P * 4294967296) * T := Nat.mul_le_mul_left _ (by omega)
  have h4 := h.Uge
  omega
theorem Tops.start (h : Tops P lu lv T u2 v1 v2 U V) : T / v1 ≤ 4294967297 := by
  have h1 := h.Uge
  have h2 := h.hlt
  have h3 := Nat.mul_lt_mul_of_pos_right h.Vlt (show 0 < 4294967296 by omega)
  have h4 : (P * 4294967296) * T < (P * 4294967296) * ((v1 + 1) * 4294967296) := by rw [← Nat.mul_assoc]; omega
  have h5 := Nat.lt_of_mul_lt_mul_left h4
  have h6 := h.hv1
  have : T / v1 < 4294967298 := by
    rw [Nat.div_lt_iff_lt_mul (by omega)]
    omega
  omega
end
end Go.Proofs.YthikonjlgljikaaGreatDoor.Kn
