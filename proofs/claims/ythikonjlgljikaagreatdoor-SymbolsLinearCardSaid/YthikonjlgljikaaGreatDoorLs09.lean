/- Contract of bigint's times. Contracts of math/bits.Div32, Len32, LeadingZeros32 and of bigint's short. -/
import Derived.Test.YthikonjlgljikaaGreatDoorLs08
import Derived.Lib.BitFns
import Derived.Lib.Strings
import Derived.Lib.Slices
import Derived.Lib.Small
import Derived.Lib.Walk
namespace Go.Proofs.YthikonjlgljikaaGreatDoor
open Go.RowKit

/-- A slice of at most K digits of value t is returned. -/
def RetT (w' : World) (e : Ending) (K t : Nat) : Prop := ∃ k, k ≤ K ∧ RetD w' e k t
theorem RetN.d {w' : World} {e : Ending} {v : Nat} (h : RetN w' e v) : RetD w' e (nd v) v := by
  obtain ⟨p, c, he, hn⟩ := h
  exact ⟨p, c, dg v, he, hn, vf_nd v⟩
theorem RetD.t {w' : World} {e : Ending} {k v K : Nat} (h : RetD w' e k v) (hk : k ≤ K) : RetT w' e K v := ⟨k, hk, h⟩
/-- The state of a multiplication: the first k digits have value t, the others are 0. -/
def TimesAt (w : World) (g K k t : Nat) : Prop := ∃ r, Row w g K r ∧ vf r k = t ∧ ∀ l, k ≤ l → l < K → r l = 0
/-- .. within a row: j digits are done, of carry cy. -/
def InnerAt (w : World) (g K k i j t cy : Nat) : Prop := ∃ r, Row w g K r ∧ vf r k + 4294967296 ^ (i + j) * cy = t ∧ ∀ l, k ≤ l → l < K → r l = 0
theorem TimesAt.cell {w : World} {g K k t : Nat} (h : TimesAt w g K k t) {i : Nat} (hi : i < K) : ∃ u, w.cell? ⟨g, i, none⟩ = some u := by
  obtain ⟨r, hr, _⟩ := h
  exact ⟨_, hr.1.cell hi⟩
theorem inner_alg {vr P cy V Q x vb s cz o R y vu : Nat} (h1 : vr + P * cy = V + Q * (x * vb)) (hP : P = Q * R) (h2 : x * y + o + cy = s + 4294967296 * cz) (h3 : vu + P * o = vr + P * s) : vu + (4294967296 * P) * cz = V + Q * (x * (vb + R * y)) := by
  have h4 : P * (x * y) + P * o + P * cy = P * s + P * (4294967296 * cz) := by rw [← Nat.mul_add, ← Nat.mul_add, ← Nat.mul_add, h2]
  have h5 : Q * (x * (vb + R * y)) = Q * (x * vb) + P * (x * y) := by rw [hP]; simp only [Nat.mul_add, Nat.mul_comm, Nat.mul_left_comm]
  have h6 : (4294967296 * P) * cz = P * (4294967296 * cz) := by simp only [Nat.mul_comm, Nat.mul_left_comm]
  rw [h5, h6]
  omega
theorem inner_step {w : World} {g K k i j V x cy o y s cz : Nat} {b r : Nat → Nat} (hrow : Row w g K r) (hval : vf r k + 4294967296 ^ (i + j) * cy = V + 4294967296 ^ i * (x * vf b j)) (hz : ∀ l, k ≤ l → l < K → r l = 0)
    (hk : i + j < k) (ho : r (i + j) = o) (hy : b j = y) (hs : (x * y + o + cy) % 4294967296 = s) (hcz : (x * y + o + cy) / 4294967296 = cz) :
    InnerAt (w.setCell ⟨g, i + j, none⟩ (.int .u32 s)) g K k i (j + 1) (V + 4294967296 ^ i * (x * vf b (j + 1))) cz := by
  refine ⟨_, hrow.set (i + j) s (by omega), ?_, fun l h1 h2 => by unfold upd; rw [if_neg (by omega)]; exact hz l h1 h2⟩
  have h3 := vf_upd (a := r) (k := i + j) (d := s) (n := k) hk
  rw [ho] at h3
  rw [vf, hy, ← Nat.add_assoc i j 1, pow_succ']
  exact inner_alg hval (Nat.pow_add _ _ _) (by omega) h3
theorem inner_end {w : World} {g K i m V x cy : Nat} {a b : Nat → Nat} (h : InnerAt w g K (i + m) i m (V + 4294967296 ^ i * (x * vf b m)) cy) (hV : V = vf a i * vf b m) (hx : a i = x) (hcy : cy < 4294967296) :
    TimesAt (w.setCell ⟨g, i + m, none⟩ (.int .u32 cy)) g K (i + 1 + m) (vf a (i + 1) * vf b m) := by
  obtain ⟨r, hrow, hval, hz⟩ := h
  refine ⟨_, hrow.set (i + m) cy hcy, ?_, fun l h1 h2 => by unfold upd; rw [if_neg (by omega)]; exact hz l (by omega) h2⟩
  rw [show i + 1 + m = (i + m) + 1 from by omega, vf, vf_upd_ge (Nat.le_refl _), show upd r (i + m) cy (i + m) = cy from by simp [upd], hval, hV, vf, hx, Nat.add_mul, Nat.mul_assoc]
set_option maxRecDepth 100000 in
theorem c_times (p : Option Addr) (c n : Nat) (a : Nat → Nat) (q : Option Addr) (d m : Nat) (b : Nat → Nat) (w : World) (h1 : Dg w p c n a) (h2 : Dg w q d m b) (hn : n ≤ 35184372088830) (hm : m ≤ 35184372088830) :
    Calls Tryz.prog 130 #[.slice p n c, .slice q m d] w fun e w' => RetT w' e (n + m) (vf a n * vf b m) ∧ Below w.heap.size w w' := by
  have H1 := Lib.hid h1
  have H2 := Lib.hid h2
  clear h1 h2
  by_cases h0 : n = 0 ∨ m = 0
  · have hT : vf a n * vf b m = 0 := by rcases h0 with rfl | rfl <;> simp [vf]
    rw [hT]
    have hnil : RetT w (.returned (.slice none 0 0)) (n + m) 0 := ⟨0, Nat.zero_le _, none, 0, fun _ => 0, rfl, ⟨Nat.le_refl _, fun j hj => absurd hj (Nat.not_lt_zero _), .inl rfl⟩, rfl⟩
    have HN := Lib.hid hnil
    clear hnil hT
    by_cases hn0 : n = 0
    · subst hn0
      clear h0
      go_enter Tryz.func130, Tryz.ntmps130
      go_wp2
      go_ret
      exact ⟨HN.out, Below.refl _ _⟩
    · have hm0 : m = 0 := h0.resolve_left hn0
      subst hm0
      have hnb : ((n : Int) == 0) = false := beq_eq_false_iff_ne.2 (by omega)
      clear h0 hn0
      go_enter Tryz.func130, Tryz.ntmps130
      go_wp2
      go_ret
      exact ⟨HN.out, Below.refl _ _⟩
  · have hn0 : 0 < n := by omega
    have hm0 : 0 < m := by omega
    have hnb : ((n : Int) == 0) = false := beq_eq_false_iff_ne.2 (by omega)
    have hmb : ((m : Int) == 0) = false := beq_eq_false_iff_ne.2 (by omega)
    clear h0
    obtain ⟨g1, o1, rfl, hg1, hc1⟩ := H1.out.head hn0
    obtain ⟨g2, o2, rfl, hg2, hc2⟩ := H2.out.head hm0
    by_cases hone : n = 1 ∧ m = 1
    · obtain ⟨rfl, rfl⟩ := hone
      have l0 := H1.out.lt 0 (by omega)
      have m0 := H2.out.lt 0 (by omega)
      have c0 := hc1 0 (by omega)
      have d0 := hc2 0 (by omega)
      obtain ⟨x, hx⟩ : ∃ x, a 0 = x := ⟨_, rfl⟩
      obtain ⟨y, hy⟩ : ∃ y, b 0 = y := ⟨_, rfl⟩
      have hT : vf a 1 * vf b 1 = x * y := by simp [vf, hx, hy]
      rw [hx] at c0 l0
      rw [hy] at d0 m0
      rw [Nat.add_zero] at c0 d0
      obtain ⟨pp, hpp⟩ : ∃ pp, x * y = pp := ⟨_, rfl⟩
      have hppi : (x : Int) * (y : Int) = (pp : Nat) := by rw [← hpp]; exact (Int.natCast_mul _ _).symm
      have hle : pp ≤ 4294967295 * 4294967295 := by rw [← hpp]; exact Nat.mul_le_mul (by omega) (by omega)
      have hppl : (pp : Int) < 18446744073709551616 := by omega
      have hnd : nd pp ≤ 1 + 1 := nd_le.2 (by omega)
      have hxi : (x : Int) < 4294967296 := by omega
      have hyi : (y : Int) < 4294967296 := by omega
      rw [hT, hpp]
      have hw := fun w => c_wide pp w (by omega)
      have HW := Lib.hid hw
      have HND := Lib.hid hnd
      clear hw hT hpp hx hy l0 m0 hle hnd hc1 hc2 hn0 hm0
      go_enter Tryz.func130, Tryz.ntmps130
      go_wp2
      go_still_tail 9, (by kernel_rfl)
      change wpList _ _ _ _ _ w.drew
      generalize hwd : w.drew = wd
      have hbd : Below w.heap.size w wd := by rw [← hwd]; exact (Below.refl _ _).drew
      have HBD := Lib.hid hbd
      clear hwd hbd
      go_wp2_with (go_at_call 120; rw [hppi]; refine (HW.out _).mono ?_; rintro e w' ⟨⟨p, c', rfl, hnm⟩, hb⟩)
      go_ret
      have hR : RetN w' (.returned (.slice p (nd pp) c')) pp := ⟨p, c', rfl, hnm⟩
      exact ⟨RetD.t hR.d HND.out, HBD.out.trans (hb.mono HBD.out.size)⟩
    · have hmk : ∀ w, (Instr.makeSlice 31 (.int .i64 ((n : Int) + (m : Int))) (.int .i64 ((n : Int) + (m : Int)))).run Tryz.prog w = .ok (.slice (some ⟨w.heap.size, 0, none⟩) (n + m) (n + m)) (w.alloc (.cells (madeCells #[.int .u32 0] (n + m)) 187)) := make32 (n + m) (by omega)
      have hrow := Row.made w (n + m)
      have HR := Lib.hid hrow
      have HO := Lib.hid hone
      clear hrow hone hc1 hc2
      go_enter Tryz.func130, Tryz.ntmps130
      go_upto_region 3 with (fail)
      go_cut [27] (fun v wc => wc = w ∧ v = .bool false)
      case first =>
        by_cases hn1 : (n : Int) = 1
        · have hmb1 : ((m : Int) == 1) = false := beq_eq_false_iff_ne.2 (by have := HO.out; omega)
          have hnb1 : ((n : Int) == 1) = true := by rw [beq_iff_eq]; exact hn1
          clear hn1
          go_wp2
          go_meet
          case rel => exact ⟨rfl, rfl⟩
        · have hnb1 : ((n : Int) == 1) = false := beq_eq_false_iff_ne.2 hn1
          clear hn1
          go_wp2
          go_meet
          case rel => exact ⟨rfl, rfl⟩
      case rest =>
        obtain ⟨rfl, rfl⟩ := hcut
        go_wp2
        obtain ⟨wb, hwb⟩ : ∃ wb, wc.alloc (.cells (madeCells #[.int .u32 0] (n + m)) 187) = wb := ⟨_, rfl⟩
        rw [hwb]
        have hbel : Below wc.heap.size wc wb := by rw [← hwb]; exact (Below.refl _ _).alloc (Nat.le_refl _) _
        have hstart : TimesAt wb wc.heap.size (n + m) (0 + m) (vf a 0 * vf b m) := by
          rw [hwb] at HR
          refine ⟨_, HR.out, ?_, fun _ _ _ => rfl⟩
          rw [vf_zero (fun _ _ => rfl)]; simp [vf]
        have HB0 := Lib.hid hbel
        have HS0 := Lib.hid hstart
        obtain ⟨G, hG⟩ : ∃ G, wc.heap.size = G := ⟨_, rfl⟩
        have HG := Lib.hid hG
        have hg1' : g1 < G := by omega
        have hg2' : g2 < G := by omega
        rw [hG] at HB0 HS0
        rw [hG]
        clear hwb hbel hstart hmk HR hG hg1 hg2 HO
        go_loopw [46] (fun v wr => ∃ i : Nat, i ≤ n ∧ v = .int .i64 i ∧ TimesAt wr G (n + m) (i + m) (vf a i * vf b m) ∧ Below G wc wr) (fun v _ => n - (intOf v).toNat)
        case atStart => exact ⟨0, Nat.zero_le _, rfl, HS0.out, HB0.out⟩
        case round =>
          obtain ⟨i, hi, rfl, hT, hb⟩ := hrel
          have HB := Lib.hid hb
          have HT := Lib.hid hT
          clear hb hT
          by_cases hlt : (i : Int) < (n : Int)
          · have c1 : wr.cell? ⟨g1, o1 + i, none⟩ = _ := (HB.out.cell (p := ⟨g1, o1 + i, none⟩) hg1').trans ((H1.out.head hn0).elim fun g h => h.elim fun o h => by
              obtain ⟨e, _, hc⟩ := h
              injection e with e; injection e with e1 e2; subst e1; subst e2
              exact hc i (by omega))
            have hxl : ((a i : Nat) : Int) < 4294967296 := by have := H1.out.lt i (by omega); omega
            obtain ⟨x, hx⟩ : ∃ x, a i = x := ⟨_, rfl⟩
            rw [hx] at c1 hxl
            have HX := Lib.hid hx
            clear hx
            go_wp2
            obtain ⟨wo, rfl⟩ : ∃ wo : World, wo = wr := ⟨_, rfl⟩
            obtain ⟨V, hV⟩ : ∃ V, vf a i * vf b m = V := ⟨_, rfl⟩
            have HV := Lib.hid hV
            rw [hV] at HT
            clear hV
            go_loopw [8, 53] (fun v8 v53 wr => ∃ j cy : Nat, j ≤ m ∧ v8 = .int .u64 cy ∧ v53 = .int .i64 j ∧ (cy : Int) < 4294967296 ∧ InnerAt wr G (n + m) (i + m) i j (V + 4294967296 ^ i * (x * vf b j)) cy ∧ Below G wc wr) (fun _ v53 _ => m - (intOf v53).toNat)
            case atStart => exact ⟨0, 0, Nat.zero_le _, rfl, rfl, by decide, by
              obtain ⟨r, hr, hv, hz⟩ := HT.out
              exact ⟨r, hr, by simp [vf, hv], hz⟩, HB.out⟩
            case round =>
              obtain ⟨j, cy, hj, rfl, rfl, hcy, hI, hb⟩ := hrel
              have HB2 := Lib.hid hb
              clear hb
              by_cases hjl : (j : Int) < (m : Int)
              · obtain ⟨r, hrow, hval, hz⟩ := hI
                have d1 : wr.cell? ⟨g2, o2 + j, none⟩ = _ := (HB2.out.cell (p := ⟨g2, o2 + j, none⟩) hg2').trans ((H2.out.head hm0).elim fun g h => h.elim fun o h => by
                  obtain ⟨e, _, hc⟩ := h
                  injection e with e; injection e with e1 e2; subst e1; subst e2
                  exact hc j (by omega))
                have hyl : ((b j : Nat) : Int) < 4294967296 := by have := H2.out.lt j (by omega); omega
                obtain ⟨y, hy⟩ : ∃ y, b j = y := ⟨_, rfl⟩
                rw [hy] at d1 hyl
                have hst : wr.cell? ⟨G, i + j, none⟩ = some (.int .u32 (r (i + j) : Nat)) := hrow.1.cell (by omega)
                have hfz : wr.frozen? ⟨G, i + j, none⟩ = false := hrow.1.frozen _
                have hol : ((r (i + j) : Nat) : Int) < 4294967296 := by have := hrow.2 (i + j) (by omega); omega
                obtain ⟨o, ho⟩ : ∃ o, r (i + j) = o := ⟨_, rfl⟩
                rw [ho] at hst hol
                obtain ⟨pp, hpp⟩ : ∃ pp, x * y = pp := ⟨_, rfl⟩
                have hppi : (x : Int) * (y : Int) = (pp : Nat) := by rw [← hpp]; exact (Int.natCast_mul _ _).symm
                have hle : pp ≤ 4294967295 * 4294967295 := by rw [← hpp]; exact Nat.mul_le_mul (by omega) (by omega)
                have hppl : (pp : Int) ≤ 18446744065119617025 := by omega
                obtain ⟨s, hs⟩ : ∃ s, (x * y + o + cy) % 4294967296 = s := ⟨_, rfl⟩
                obtain ⟨cz, hcz⟩ : ∃ cz, (x * y + o + cy) / 4294967296 = cz := ⟨_, rfl⟩
                have hnew := inner_step hrow hval hz (by omega) ho hy hs hcz
                rw [hpp] at hs hcz
                have hsi : ((pp : Int) + (o : Int) + (cy : Int)) % 4294967296 = (s : Nat) := by omega
                have hci : ((pp : Int) + (o : Int) + (cy : Int)) / 4294967296 = (cz : Nat) := by omega
                have hcl : (cz : Int) < 4294967296 := by omega
                have HN := Lib.hid hnew
                clear hnew hrow hval hz ho hy hs hcz hpp hle
                go_wp2
                go_roundw
                case rel => exact ⟨j + 1, cz, by omega, rfl, by go_num, hcl, HN.out, HB2.out.setCell (Nat.le_refl _) _⟩
                case measure => simp [intOf]; omega
              · obtain rfl : j = m := by omega
                have hfin := inner_end hI HV.out.symm HX.out (by omega)
                obtain ⟨r, hrow, _, _⟩ := hI
                have hst : wr.cell? ⟨G, i + j, none⟩ = some (.int .u32 (r (i + j) : Nat)) := hrow.1.cell (by omega)
                have hfz : wr.frozen? ⟨G, i + j, none⟩ = false := hrow.1.frozen _
                have HF := Lib.hid hfin
                clear hfin hrow
                go_wp2
                go_roundw
                case rel => exact ⟨i + 1, by omega, by go_num, HF.out, HB2.out.setCell (Nat.le_refl _) _⟩
                case measure => simp [intOf]; omega
          · obtain rfl : i = n := by omega
            go_wp2
            go_ret
            obtain ⟨r, hr, hv, _⟩ := HT.out
            have hR : RetD wr (.returned (.slice (some ⟨G, 0, none⟩) (i + m) (i + m))) (i + m) (vf a i * vf b m) := ⟨_, _, r, rfl, hr.dg _ (Nat.le_refl _), hv⟩
            exact ⟨hR.t (Nat.le_refl _), by rw [HG.out]; exact HB.out⟩
end Go.Proofs.YthikonjlgljikaaGreatDoor
namespace Go.Proofs.YthikonjlgljikaaGreatDoor
open Go.RowKit

set_option maxRecDepth 100000 in
theorem c_Div32 (hi lo y : Nat) (w : World) (hlo : (lo : Int) < 4294967296) (hy : (y : Int) < 4294967296) (hlt : (hi : Int) < (y : Int)) :
    Calls Tryz.prog 227 #[.int .u32 hi, .int .u32 lo, .int .u32 y] w fun e w' => e = .returned (.tuple #[.int .u32 ((lo + 4294967296 * hi) / y : Nat), .int .u32 ((lo + 4294967296 * hi) % y : Nat)]) ∧ ∃ k, w' = w.drewN k := by
  have hor := or64 hi lo (by omega) (by omega)
  obtain ⟨z, hz⟩ : ∃ z, lo + 4294967296 * hi = z := ⟨_, rfl⟩
  rw [hz] at hor ⊢
  have hzi : (lo : Int) + 4294967296 * (hi : Int) = (z : Nat) := by omega
  obtain ⟨q, hq⟩ : ∃ q, z / y = q := ⟨_, rfl⟩
  obtain ⟨r, hr⟩ : ∃ r, z % y = r := ⟨_, rfl⟩
  have hqi : (z : Int) / (y : Int) = (q : Nat) := by rw [← hq]; exact (Int.natCast_ediv _ _).symm
  have hri : (z : Int) % (y : Int) = (r : Nat) := by rw [← hr]; exact (Int.natCast_emod _ _).symm
  have hrl : r < y := by rw [← hr]; exact Nat.mod_lt _ (by omega)
  have hql : q < 4294967296 := by
    rw [← hq, Nat.div_lt_iff_lt_mul (by omega)]
    have : 4294967296 * (hi + 1) ≤ 4294967296 * y := Nat.mul_le_mul_left _ (by omega)
    omega
  have hqt : Int.tdiv (z : Int) (y : Int) = (q : Nat) := by rw [Int.tdiv_eq_ediv_of_nonneg (by omega)]; exact hqi
  have hrt : Int.tmod (z : Int) (y : Int) = (r : Nat) := by rw [Int.tmod_eq_emod_of_nonneg (by omega)]; exact hri
  have hqm : ((q : Nat) : Int) % 4294967296 = (q : Nat) := by omega
  have hrm : ((r : Nat) : Int) % 4294967296 = (r : Nat) := by omega
  have hqm2 : ((q : Nat) : Int) % 18446744073709551616 = (q : Nat) := by omega
  have hzl : (z : Int) < 18446744073709551616 := by omega
  have hqli : (q : Int) < 4294967296 := by omega
  have hrli : (r : Int) < 4294967296 := by omega
  have hyb : ((y : Int) != 0) = true := by rw [bne_iff_ne]; omega
  have hle : ¬ ((y : Int) ≤ (hi : Int)) := by omega
  rw [hq, hr]
  clear hq hr hql hrl hz hzi
  go_enter Tryz.func227, Tryz.ntmps227
  go_wp2
  go_quiet (fail)
  go_wp2
  go_ret2
  exact ⟨rfl, nq, rfl⟩

/-- The state of a short division: the digits from k on are done, q the quotient's value so far, r the remainder. -/
def ShortAt (w : World) (g n k d r : Nat) (a : Nat → Nat) : Prop := ∃ qr, Row w g n qr ∧ (∀ l, l < k → qr l = 0) ∧ vf qr n * d + 4294967296 ^ k * r + vf a k = vf a n
theorem short_step {w : World} {g n k d r x q r' : Nat} {a : Nat → Nat} (h : ShortAt w g n (k + 1) d r a) (hx : a k = x) (hk : k < n) (hq : (x + 4294967296 * r) / d = q) (hr : (x + 4294967296 * r) % d = r') (hql : q < 4294967296) :
    ShortAt (w.setCell ⟨g, k, none⟩ (.int .u32 q)) g n k d r' a := by
  obtain ⟨qr, hrow, hz, hv⟩ := h
  refine ⟨_, hrow.set k q hql, fun l hl => by unfold upd; rw [if_neg (by omega)]; exact hz l (by omega), ?_⟩
  have h1 := vf_upd (a := qr) (k := k) (d := q) (n := n) hk
  rw [hz k (by omega), Nat.mul_zero, Nat.add_zero] at h1
  have h2 : d * q + r' = x + 4294967296 * r := by rw [← hq, ← hr]; exact Nat.div_add_mod _ _
  have h3 := congrArg (4294967296 ^ k * ·) h2
  simp only [Nat.mul_add] at h3
  rw [vf, hx, pow_succ'] at hv
  rw [h1, Nat.add_mul, Nat.mul_assoc, Nat.mul_comm q d]
  rw [show 4294967296 * 4294967296 ^ k * r = 4294967296 ^ k * (4294967296 * r) from by rw [Nat.mul_comm 4294967296, Nat.mul_assoc]] at hv
  omega
/-- A quotient of n digits and a remainder of one are returned. -/
def RetS (w' : World) (e : Ending) (n t r : Nat) : Prop := ∃ p c qr, e = .returned (.tuple #[.slice p n c, .int .u32 (r : Nat)]) ∧ Dg w' p c n qr ∧ vf qr n = t
set_option maxRecDepth 100000 in
theorem c_short (p : Option Addr) (c n : Nat) (a : Nat → Nat) (d : Nat) (w : World) (h1 : Dg w p c n a) (hn : n ≤ 70368744177660) (hd0 : 0 < d) (hd : (d : Int) < 4294967296) :
    Calls Tryz.prog 220 #[.slice p n c, .int .u32 d] w fun e w' => RetS w' e n (vf a n / d) (vf a n % d) ∧ Below w.heap.size w w' := by
  have hmk : ∀ w, (Instr.makeSlice 31 (.int .i64 (n : Int)) (.int .i64 (n : Int))).run Tryz.prog w = .ok (.slice (some ⟨w.heap.size, 0, none⟩) n n) (w.alloc (.cells (madeCells #[.int .u32 0] n) 187)) := make32 n (by omega)
  have hrow := Row.made w n
  have H1 := Lib.hid h1
  have HR := Lib.hid hrow
  clear h1 hrow
  go_enter Tryz.func220, Tryz.ntmps220
  go_wp2
  obtain ⟨wb, hwb⟩ : ∃ wb, w.alloc (.cells (madeCells #[.int .u32 0] n) 187) = wb := ⟨_, rfl⟩
  rw [hwb]
  have hbel : Below w.heap.size w wb := by rw [← hwb]; exact (Below.refl _ _).alloc (Nat.le_refl _) _
  rw [hwb] at HR
  have HB0 := Lib.hid hbel
  clear hwb hbel hmk
  go_loopw [7, 8] (fun v7 v8 wr => ∃ k r : Nat, k ≤ n ∧ v7 = .int .u32 r ∧ v8 = .int .i64 ((k : Int) - 1) ∧ (r : Int) < (d : Int) ∧ ShortAt wr w.heap.size n k d r a ∧ Below w.heap.size w wr) (fun _ v8 _ => (intOf v8 + 1).toNat)
  case atStart => exact ⟨n, 0, Nat.le_refl _, rfl, by go_num, by omega, ⟨_, HR.out, fun _ _ => rfl, by rw [vf_zero (fun _ _ => rfl)]; omega⟩, HB0.out⟩
  case round =>
    obtain ⟨k, r, hk, rfl, rfl, hrd, hS, hb⟩ := hrel
    have HB := Lib.hid hb
    have HS := Lib.hid hS
    clear hb hS
    by_cases h0 : k = 0
    · subst h0
      obtain ⟨qr, hrow, _, hv⟩ := HS.out
      simp only [Nat.pow_zero, Nat.one_mul, vf, Nat.add_zero] at hv
      have hq : vf qr n = vf a n / d := by rw [← hv, Nat.mul_comm, Nat.mul_add_div hd0, Nat.div_eq_of_lt (by omega), Nat.add_zero]
      have hr : r = vf a n % d := by rw [← hv, Nat.mul_comm, Nat.mul_add_mod, Nat.mod_eq_of_lt (by omega)]
      have HQ := Lib.hid hq
      have hR : RetS wr (.returned (.tuple #[.slice (some ⟨w.heap.size, 0, none⟩) n n, .int .u32 (r : Nat)])) n (vf a n / d) (vf a n % d) := by rw [← hr]; exact ⟨_, _, qr, rfl, hrow.dg n (Nat.le_refl _), hq⟩
      have HF := Lib.hid hR
      clear hrow hv hq hr hR
      go_wp2
      go_ret2
      exact ⟨HF.out, HB.out⟩
    · obtain ⟨k, rfl⟩ : ∃ j, k = j + 1 := ⟨k - 1, by omega⟩
      obtain ⟨g1, o1, rfl, hg1, hc1⟩ := H1.out.head (by omega)
      have c1 : wr.cell? ⟨g1, o1 + k, none⟩ = _ := (HB.out.cell (p := ⟨g1, o1 + k, none⟩) hg1).trans (hc1 k (by omega))
      have hxl : ((a k : Nat) : Int) < 4294967296 := by have := H1.out.lt k (by omega); omega
      obtain ⟨x, hx⟩ : ∃ x, a k = x := ⟨_, rfl⟩
      rw [hx] at c1 hxl
      have hst : ∃ u, wr.cell? ⟨w.heap.size, k, none⟩ = some u := by obtain ⟨qr, hrow, _⟩ := HS.out; exact ⟨_, hrow.1.cell (by omega)⟩
      obtain ⟨u, hst⟩ := hst
      have hfz : wr.frozen? ⟨w.heap.size, k, none⟩ = false := by obtain ⟨qr, hrow, _⟩ := HS.out; exact hrow.1.frozen k
      have HC := c_Div32 r x d wr hxl hd hrd
      obtain ⟨q, hq⟩ : ∃ q, (x + 4294967296 * r) / d = q := ⟨_, rfl⟩
      obtain ⟨r', hr⟩ : ∃ r', (x + 4294967296 * r) % d = r' := ⟨_, rfl⟩
      have hql : q < 4294967296 := by
        rw [← hq, Nat.div_lt_iff_lt_mul hd0]
        have : 4294967296 * (r + 1) ≤ 4294967296 * d := Nat.mul_le_mul_left _ (by omega)
        omega
      have hrl : (r' : Int) < (d : Int) := by have : r' < d := (by rw [← hr]; exact Nat.mod_lt _ hd0); omega
      have hqi : (q : Int) < 4294967296 := by omega
      have hnew := short_step HS.out hx (by omega) hq hr hql
      rw [hq, hr] at HC
      have HC := Lib.hid HC
      have HN := Lib.hid hnew
      have e1 : (((k + 1 : Nat) : Int) - 1) = (k : Int) := by omega
      rw [e1]
      clear hnew hq hr hx hc1 hql h0 e1
      go_wp2_with (go_at_call 227; refine HC.out.mono ?_; rintro e w' ⟨rfl, kk, rfl⟩)
      go_roundw
      case rel => exact ⟨k, r', by omega, rfl, rfl, hrl, HN.out, (below_drewN' HB.out kk).setCell (Nat.le_refl _) _⟩
      case measure => simp [intOf]

theorem len8_get (b : Int) (h0 : 0 ≤ b) (h1 : b ≤ 255) {h : b.toNat < Lib.len8tab.size} : ((Lib.len8tab[b.toNat]'h).toNat : Int) = (Lib.bitLen b.toNat : Int) := by
  rw [← Lib.len8_of b h0 h1]
  unfold Lib.len8
  rw [getElem?_pos Lib.len8tab b.toNat h]
  rfl
theorem len24 (x : Int) (y : Nat) (h0 : 0 ≤ x) (h1 : x ≤ 4294967295) (h2 : 16777216 ≤ x) (h3 : x / 65536 / 256 ≤ 255) (hb : (y : Int) = (Lib.bitLen (x / 65536 / 256).toNat : Int)) : wrap64 (24 + wrap64 (y : Int)) = ((Lib.bitLen x.toNat : Nat) : Int) := by
  have l := Lib.bitLen_le8' (x / 65536 / 256) (by omega) h3
  have s := Lib.bitLen_shift24 x.toNat (by omega) (by omega)
  have e : (x / 65536 / 256).toNat = x.toNat / 16777216 := by omega
  rw [e] at hb l
  generalize Lib.bitLen (x.toNat / 16777216) = z at *
  generalize Lib.bitLen x.toNat = t at *
  have : y ≤ 8 := by omega
  clear e h0 h1 h2 h3
  unfold wrap64
  omega
theorem len16 (x : Int) (y : Nat) (h0 : 0 ≤ x) (h1 : x ≤ 4294967295) (h2 : 65536 ≤ x) (h3 : x / 65536 ≤ 255) (hb : (y : Int) = (Lib.bitLen (x / 65536).toNat : Int)) : wrap64 (16 + wrap64 (y : Int)) = ((Lib.bitLen x.toNat : Nat) : Int) := by
  have l := Lib.bitLen_le8' (x / 65536) (by omega) h3
  have s := Lib.bitLen_shift16 x.toNat (by omega) (by omega)
  have e : (x / 65536).toNat = x.toNat / 65536 := by omega
  rw [e] at hb l
  generalize Lib.bitLen (x.toNat / 65536) = z at *
  generalize Lib.bitLen x.toNat = t at *
  have : y ≤ 8 := by omega
  clear e h0 h1 h2 h3
  unfold wrap64
  omega
theorem len8 (x : Int) (y : Nat) (h0 : 0 ≤ x) (h1 : x ≤ 4294967295) (h2 : 256 ≤ x) (h3 : x / 256 ≤ 255) (hb : (y : Int) = (Lib.bitLen (x / 256).toNat : Int)) : wrap64 (8 + wrap64 (y : Int)) = ((Lib.bitLen x.toNat : Nat) : Int) := by
  have l := Lib.bitLen_le8' (x / 256) (by omega) h3
  have s := Lib.bitLen_shift8 x.toNat (by omega) (by omega)
  have e : (x / 256).toNat = x.toNat / 256 := by omega
  rw [e] at hb l
  generalize Lib.bitLen (x.toNat / 256) = z at *
  generalize Lib.bitLen x.toNat = t at *
  have : y ≤ 8 := by omega
  clear e h0 h1 h2 h3
  unfold wrap64
  omega
theorem len0 (x : Int) (y : Nat) (h0 : 0 ≤ x) (h3 : x ≤ 255) (hb : (y : Int) = (Lib.bitLen x.toNat : Int)) : wrap64 (wrap64 (y : Int)) = ((Lib.bitLen x.toNat : Nat) : Int) := by
  have l := Lib.bitLen_le8' x h0 h3
  generalize Lib.bitLen x.toNat = z at *
  have : y ≤ 8 := by omega
  unfold wrap64
  omega
set_option maxRecDepth 100000 in
theorem c_Len32 (x : Int) (w : World) (h0 : 0 ≤ x) (h1 : x ≤ 4294967295) :
    Calls Tryz.prog 228 #[.int .u32 x] w fun e w' => e = .returned (.int .i64 (Lib.bitLen x.toNat)) ∧ w' = w := by
  have hsz : (Lib.len8tab.size : Int) = 256 := by rw [Lib.len8tab_size]; rfl
  go_enter Tryz.func228, Tryz.ntmps228
  go_wp2
  · go_ret
    exact ⟨ret_i (len24 x _ h0 h1 (by omega) (by omega) (len8_get _ (by omega) (by omega))), rfl⟩
  · go_ret
    exact ⟨ret_i (len16 x _ h0 h1 (by omega) (by omega) (len8_get _ (by omega) (by omega))), rfl⟩
  · go_ret
    exact ⟨ret_i (len8 x _ h0 h1 (by omega) (by omega) (len8_get _ (by omega) (by omega))), rfl⟩
  · go_ret
    exact ⟨ret_i (len0 x _ h0 (by omega) (len8_get _ (by omega) (by omega))), rfl⟩
theorem c_Lz32 (x : Int) (w : World) (h0 : 0 ≤ x) (h1 : x ≤ 4294967295) :
    Calls Tryz.prog 221 #[.int .u32 x] w fun e w' => e = .returned (.int .i64 (32 - (Lib.bitLen x.toNat : Int))) ∧ w' = w := by
  have l : Lib.bitLen x.toNat ≤ 32 := Lib.bitLen_le x.toNat 32 (by omega) (by omega)
  have e8 : (32 - (Lib.bitLen x.toNat : Int) + 9223372036854775808) % 18446744073709551616 - 9223372036854775808 = 32 - (Lib.bitLen x.toNat : Int) := by omega
  go_enter Tryz.func221, Tryz.ntmps221
  go_wp2_with (go_at_call 228; refine (c_Len32 x _ h0 h1).mono ?_; rintro e w' ⟨rfl, rfl⟩)
  go_ret
  refine ⟨?_, rfl⟩
  rw [← e8]
  rfl
end Go.Proofs.YthikonjlgljikaaGreatDoor
