/- Contracts of the two functions that list the matrices of T_n. -/
import Derived.Test.YthikonjlgljikaaDoorRef03
import Derived.Test.YthikonjlgljikaaDoorPlain3
namespace Go.Proofs.YthikonjlgljikaaDoor
open Go.RowKit

def matc (x : Pl.Cos) : List Value := [.int .i64 x.1.1, .int .i64 x.1.2.1, .int .i64 0, .int .i64 x.1.2.2]
def facc (x : Pl.Cos) : List Value := [.int .i64 x.2]
theorem matc_one (x : Pl.Cos) : ∀ u ∈ matc x, u.oneCell' = true := by intro u hu; simp [matc] at hu; rcases hu with rfl | rfl | rfl | rfl <;> rfl
theorem facc_one (x : Pl.Cos) : ∀ u ∈ facc x, u.oneCell' = true := by intro u hu; simp [facc] at hu; subst hu; rfl
theorem matInfo : (Tryd.prog.info? 61).map (fun i => (i.zero, i.size, i.bytes)) = some (some (.agg #[.int .i64 0, .int .i64 0, .int .i64 0, .int .i64 0]), 4, 32) := by kernel_rfl
theorem intInfo : (Tryd.prog.info? 3).map (fun i => (i.zero, i.size, i.bytes)) = some (some (.int .i64 0), 1, 8) := by kernel_rfl
/-- Two rows that hold a list of matrices and of factors. -/
structure Two (w : World) (B : Nat) (v1 v2 : Value) (L : List Pl.Cos) : Prop where
  mats : w.ownsRow B 61 4 v1 L.length (L.flatMap matc)
  facs : w.ownsRow B 3 1 v2 L.length (L.flatMap facc)
theorem Two.nil_ (w : World) (B : Nat) : Two w B (.slice none 0 0) (.slice none 0 0) [] := ⟨World.ownsRow_nil _ _ _ _, World.ownsRow_nil _ _ _ _⟩
theorem Two.keep {w w' : World} {B : Nat} {v1 v2 : Value} {L : List Pl.Cos} (h : Two w B v1 v2 L) (hb : Below w.heap.size w w') : Two w' B v1 v2 L := ⟨own_keep h.mats hb, own_keep h.facs hb⟩

theorem two_s1 {w W w2 : World} {B g : Nat} {cs : Array Value} {l f v2 : Value} {L : List Pl.Cos} {x : Pl.Cos} (h : Two W B l f L) (_ho : w2.ownsRow B 61 4 v2 (L.length + 1) (L.flatMap matc ++ matc x)) (hg : W.grownBy w2 l.ownBlock)
    (hB : Blk W g 23 cs) (hb : Below B w W) (hs : B ≤ W.heap.size) : w2.ownsRow B 3 1 f L.length (L.flatMap facc) ∧ Blk w2 g 23 cs ∧ Below B w w2 ∧ B ≤ w2.heap.size :=
  ⟨own_other h.facs h.mats (by decide) hg, own_blk hB h.mats (by decide) hg, own_below hb h.mats hg (Nat.le_refl _) hs, Nat.le_trans hs hg.size⟩
theorem two_s2 {w w2 w3 : World} {B g : Nat} {cs : Array Value} {f v2 v3 : Value} {L : List Pl.Cos} {x : Pl.Cos} (ho : w2.ownsRow B 61 4 v2 (L.length + 1) (L.flatMap matc ++ matc x)) (hf : w2.ownsRow B 3 1 f L.length (L.flatMap facc))
    (ho3 : w3.ownsRow B 3 1 v3 (L.length + 1) (L.flatMap facc ++ facc x)) (hg : w2.grownBy w3 f.ownBlock) (hB : Blk w2 g 23 cs) (hb : Below B w w2) (hs : B ≤ w2.heap.size) :
    Two w3 B v2 v3 (L ++ [x]) ∧ Blk w3 g 23 cs ∧ Below B w w3 :=
  ⟨⟨by rw [len_snoc, flat_snoc]; exact own_other ho hf (by decide) hg, by rw [len_snoc, flat_snoc]; exact ho3⟩, own_blk hB hf (by decide) hg, own_below hb hf hg (Nat.le_refl _) hs⟩
theorem cosE_check {N k D n : Int} (h : Pl.check N k D ≠ 0) : Pl.cosE N k D n = Pl.check N k D ∧ ∀ chi, Pl.cosL chi N k D n = [] := by
  have h1 : Pl.cosE N k D n = Pl.check N k D := by unfold Pl.cosE; rw [if_pos h]
  exact ⟨h1, fun chi => by unfold Pl.cosL; rw [if_neg (by rw [h1]; exact h)]⟩
theorem cosE_n {N k D n : Int} (h : Pl.check N k D = 0) (hn : n < 1 ∨ 128 < n) : Pl.cosE N k D n = 2 ∧ ∀ chi, Pl.cosL chi N k D n = [] := by
  have h1 : Pl.cosE N k D n = 2 := by unfold Pl.cosE; rw [if_neg (by omega), if_pos hn]
  exact ⟨h1, fun chi => by unfold Pl.cosL; rw [if_neg (by rw [h1]; decide)]⟩

theorem two_chi {w w2 w3 : World} {B g : Nat} {cs : Array Value} {f v2 : Value} {L : List Pl.Cos} {x : Pl.Cos} (ho : w2.ownsRow B 61 4 v2 (L.length + 1) (L.flatMap matc ++ matc x)) (hf : w2.ownsRow B 3 1 f L.length (L.flatMap facc))
    (hB : Blk w2 g 23 cs) (hb : Below B w w2) (hs : B ≤ w2.heap.size) (hk : Below w2.heap.size w2 w3) :
    w3.ownsRow B 61 4 v2 (L.length + 1) (L.flatMap matc ++ matc x) ∧ w3.ownsRow B 3 1 f L.length (L.flatMap facc) ∧ Blk w3 g 23 cs ∧ Below B w w3 ∧ B ≤ w3.heap.size :=
  ⟨own_keep ho hk, own_keep hf hk, hB.below_ hk hB.lt, hb.trans (hk.mono hs), Nat.le_trans hs hk.size⟩
set_option maxHeartbeats 4000000 in
set_option maxRecDepth 100000 in
theorem c_Cosets_in (N n : Nat) (k D : Int) (w : World) (hT : Tab w) (hN : 0 < N) (hN' : N ≤ 120) (hD : -120 ≤ D) (hD' : D ≤ 120) (hn : 0 < n) (hn' : n ≤ 128) (hck : Pl.check N k D = 0) :
    Calls Tryd.prog 8 #[spec N k D, .int .i64 n] w fun e w' => (∃ v1 v2, e = .returned (.tuple #[v1, v2, .int .i64 0]) ∧ Two w' w.heap.size v1 v2 (Pl.cosAt (Pl.kroP D) N n n)) ∧ Below w.heap.size w w' := by
  have HK := Lib.hid hck
  clear hck
  go_enter Tryd.func8, Tryd.ntmps8
  go_wp2_with fail
  refine (c_Check N k D _).mono ?_
  rw [HK.out]
  rintro en w1 ⟨rfl, hb1⟩
  simp only [World.size_alloc] at hb1
  have B1 : Blk w1 w.heap.size 23 #[.int .i64 N, .int .i64 k, .int .i64 D] := (Blk.new w _ _).below_ hb1 (by omega)
  have W1 : Below w.heap.size w w1 := ((Below.refl _ _).alloc (Nat.le_refl _) _).trans (hb1.mono (by omega))
  have HB1 := Lib.hid B1
  have HW1 := Lib.hid W1
  have HT := Lib.hid hT
  clear hb1 B1 W1 hT
  go_wp2
  go_loopw [8, 9, 10] (fun l f x wr => ∃ q : Nat, q ≤ n ∧ x = .int .i64 ((q + 1 : Nat) : Int) ∧ Two wr w.heap.size l f (Pl.cosAt (Pl.kroP D) N n q) ∧ Blk wr w.heap.size 23 #[.int .i64 N, .int .i64 k, .int .i64 D] ∧ Below w.heap.size w wr ) (fun _ _ x _ => n + 1 - (intOf x).toNat)
  case atStart => exact ⟨0, Nat.zero_le _, rfl, Two.nil_ _ _, HB1.out, HW1.out⟩
  case round =>
    obtain ⟨q, hq, rfl, htwo, hB, hW⟩ := hrel
    have hsz := hW.size
    have HTW := Lib.hid htwo
    have HB := Lib.hid hB
    have HW := Lib.hid hW
    have d0 : wr.cell? ⟨w.heap.size, 0, none⟩ = some (.int .i64 N) := hB.at_ 0 rfl
    have d2 : wr.cell? ⟨w.heap.size, 2, none⟩ = some (.int .i64 D) := hB.at_ 2 rfl
    clear htwo hB hW
    obtain ⟨a, ha⟩ : ∃ a, q + 1 = a := ⟨_, rfl⟩
    rw [ha]
    have ha0 : 0 < a ∧ a ≤ n + 1 := by omega
    obtain ⟨ha0, ha1⟩ := ha0
    have HA := Lib.hid ha
    clear ha hq
    by_cases hle : a ≤ n
    · have hlen := Pl.cosAt_len (Pl.kroP D) N n q
      have hqn : q * n ≤ 128 * 128 := Nat.mul_le_mul (by have := HA.out; omega) (by omega)
      have hB0 : w.heap.size < wr.heap.size := HB.out.lt
      by_cases hd : n % a = 0
      · have hdi : ((n : Int) % (a : Int) != 0) = false := by rw [← Int.natCast_emod, hd]; rfl
        have hHd := Lib.hid hd
        clear hd
        obtain ⟨g, hg⟩ : ∃ g, Nat.gcd a N = g := ⟨_, rfl⟩
        have HG := Lib.hid (show ((Int.gcd (a : Int) (N : Int) : Nat) : Int) = (g : Int) by rw [← hg]; rfl)
        have Hg := Lib.hid hg
        clear hg
        by_cases hg1 : g = 1
        · have hg1b : ((g : Int) != 1) = false := by rw [bne_eq_false_iff_eq]; omega
          obtain ⟨d, hdd⟩ : ∃ d, n / a = d := ⟨_, rfl⟩
          have hdv : (n : Int) / (a : Int) = (d : Int) := by rw [← hdd]; exact (Int.natCast_ediv _ _).symm
          have hdn : d ≤ 128 := by rw [← hdd]; exact Nat.le_trans (Nat.div_le_self _ _) hn'
          obtain ⟨c, hc⟩ : ∃ c, Pl.kroP D a = c := ⟨_, rfl⟩
          have HC := Lib.hid hc
          have HDD := Lib.hid hdd
          have hstep := Pl.cosAt_yes (chi := Pl.kroP D) (N := N) (n := n) (k := q) (by rw [HA.out]; exact hHd.out) (by rw [HA.out, Hg.out]; exact hg1)
          rw [HA.out, hdd] at hstep
          generalize hL : Pl.cosAt (Pl.kroP D) N n q = L at hlen HTW hstep
          have HST := Lib.hid hstep
          have HL := Lib.hid hL
          have HG1 := Lib.hid hg1
          clear hc hdd hstep hL hg1
          go_wp2_with (first | (go_at_call 12; refine (c_gcd _ _ _ (by omega) (by omega) (by omega) (by omega)).mono ?_; rw [HG.out]; rintro e wx ⟨rfl, hqx⟩; have hbx := quiet_below hqx; have HBX := Lib.hid hbx; have e0 : wx.cell? ⟨w.heap.size, 0, none⟩ = some (.int .i64 N) := (hbx.cell hB0).trans d0; have e2 : wx.cell? ⟨w.heap.size, 2, none⟩ = some (.int .i64 D) := (hbx.cell hB0).trans d2; clear hbx hqx) | (go_at_call 26; refine (c_Kronecker D a _ ((HT.out.below HW.out).below HBX.out) (by omega) (by omega) (by omega) (by omega)).mono ?_; rw [HC.out]; rintro e wy ⟨rfl, rfl⟩))
          obtain ⟨T2, B2, W2⟩ : Two wx w.heap.size u8 u9 L ∧ Blk wx w.heap.size 23 #[.int .i64 N, .int .i64 k, .int .i64 D] ∧ Below w.heap.size w wx :=
            ⟨HTW.out.keep HBX.out, HB.out.below_ HBX.out hB0, HW.out.trans (HBX.out.mono hsz)⟩
          have HT2 := Lib.hid T2
          have HB2 := Lib.hid B2
          have HW2 := Lib.hid W2
          clear T2 B2 W2 e0 e2 d0 d2
          obtain ⟨wo, rfl⟩ : ∃ wo : World, wo = wx := ⟨_, rfl⟩
          go_loopw [8, 9, 12] (fun l f x wr => ∃ j : Nat, j ≤ d ∧ x = .int .i64 j ∧ Two wr w.heap.size l f (L ++ Pl.cosRow (Pl.kroP D) n a j) ∧ Blk wr w.heap.size 23 #[.int .i64 N, .int .i64 k, .int .i64 D] ∧ Below w.heap.size w wr) (fun _ _ x _ => d - (intOf x).toNat)
          case atStart => exact ⟨0, Nat.zero_le _, rfl, by rw [show Pl.cosRow (Pl.kroP D) n a 0 = [] from rfl, List.append_nil]; exact HT2.out, HB2.out, HW2.out⟩
          case round =>
            obtain ⟨j, hj, rfl, htw, hBr, hWr⟩ := hrel
            have hsr := hWr.size
            have hlr : (L ++ Pl.cosRow (Pl.kroP D) n a j).length ≤ 128 * 128 + 128 := by rw [List.length_append, Pl.cosRow_len]; omega
            by_cases hjd : j < d
            · have hsn : L ++ Pl.cosRow (Pl.kroP D) n a (j + 1) = (L ++ Pl.cosRow (Pl.kroP D) n a j) ++ [((a, j, d), c)] := by rw [Pl.cosRow_succ, List.append_assoc, HDD.out, HC.out]
              have HSN := Lib.hid hsn
              generalize L ++ Pl.cosRow (Pl.kroP D) n a j = M at htw hlr HSN
              have HTr := Lib.hid htw
              have HBr := Lib.hid hBr
              have HWr := Lib.hid hWr
              clear hsn htw hBr hWr
              go_wp2_with (first | (at_builtin; refine wpl_app1 rfl (.tmp 51) (.tmp 58) _ 61 rfl Tryd.underlying25 matInfo rfl (by decide) w.heap.size M.length _ (M.flatMap matc) (matc ((a, j, d), c)) rfl HTr.out.mats rfl rfl (matc_one _) (by omega) (by omega) hsr ?_; intro v2 w2 hown2 hgr2 hat2; have hS1 := two_s1 HTr.out hown2 hgr2 HBr.out HWr.out hsr; have HO2 := Lib.hid hown2; have HS1 := Lib.hid hS1; have hs2 := hS1.2.2.2; clear hown2 hgr2 hS1) | (at_builtin; refine wpl_app1 rfl (.tmp 60) (.tmp 62) _ 3 rfl Tryd.underlying26 intInfo rfl (by decide) w.heap.size M.length _ (M.flatMap facc) (facc ((a, j, d), c)) rfl HS1.out.1 rfl rfl (facc_one _) (by omega) (by omega) hs2 ?_; intro v3 w3 hown3 hgr3 hat3; have hS2 := two_s2 HO2.out HS1.out.1 hown3 hgr3 HS1.out.2.1 HS1.out.2.2.1 hs2; have HS2 := Lib.hid hS2; clear hown3 hgr3 hS2))
              go_roundw
              case rel => exact ⟨j + 1, by omega, by go_num, by rw [HSN.out]; exact HS2.out.1, HS2.out.2.1, HS2.out.2.2⟩
              case measure => simp [intOf]; omega
            · have hje : j = d := by omega
              subst hje
              rw [← HST.out] at htw
              have HTr := Lib.hid htw
              have HBr := Lib.hid hBr
              have HWr := Lib.hid hWr
              clear htw hBr hWr
              go_wp2
              go_roundw
              case rel => exact ⟨q + 1, by have := HA.out; omega, by have := HA.out; go_num, by rw [HA.out]; exact HTr.out, HBr.out, HWr.out⟩
              case measure => simp [intOf]; omega
        · have hg1b : ((g : Int) != 1) = true := by rw [bne_iff_ne]; omega
          have hstep := Pl.cosAt_no (chi := Pl.kroP D) (N := N) (n := n) (k := q) (.inr (by rw [HA.out, Hg.out]; exact hg1))
          have HST := Lib.hid hstep
          clear hstep hg1
          go_wp2_with (go_at_call 12; refine (c_gcd _ _ _ (by omega) (by omega) (by omega) (by omega)).mono ?_; rw [HG.out]; rintro e wx ⟨rfl, hqx⟩; have hbx := quiet_below hqx; have HBX := Lib.hid hbx; have e0 : wx.cell? ⟨w.heap.size, 0, none⟩ = some (.int .i64 N) := (hbx.cell hB0).trans d0; have e2 : wx.cell? ⟨w.heap.size, 2, none⟩ = some (.int .i64 D) := (hbx.cell hB0).trans d2; clear hbx hqx)
          go_roundw
          case rel => exact ⟨q + 1, by have := HA.out; omega, by have := HA.out; go_num, by rw [HST.out]; exact HTW.out.keep HBX.out, HB.out.below_ HBX.out hB0, HW.out.trans (HBX.out.mono hsz)⟩
          case measure => simp [intOf]; omega
      · have hdi : ((n : Int) % (a : Int) != 0) = true := by rw [← Int.natCast_emod, bne_iff_ne]; omega
        have hstep := Pl.cosAt_no (chi := Pl.kroP D) (N := N) (n := n) (k := q) (.inl (by rw [HA.out]; exact hd))
        have HST := Lib.hid hstep
        clear hstep hd
        go_wp2
        go_roundw
        case rel => exact ⟨q + 1, by have := HA.out; omega, by have := HA.out; go_num, by rw [HST.out]; exact HTW.out, HB.out, HW.out⟩
        case measure => simp [intOf]; omega
    · have hqn : q = n := by have := HA.out; omega
      have HTW' : Two wr w.heap.size u8 u9 (Pl.cosAt (Pl.kroP D) N n n) := by have := HTW.out; rw [hqn] at this; exact this
      have HTW2 := Lib.hid HTW'
      clear HTW' hqn
      go_wp2
      go_ret3
      exact ⟨⟨_, _, rfl, HTW2.out⟩, HW.out⟩

theorem c_Cosets (N k D n : Int) (w : World) (hT : Tab w) :
    Calls Tryd.prog 8 #[spec N k D, .int .i64 n] w fun e w' => (∃ v1 v2, e = .returned (.tuple #[v1, v2, .int .i64 (Pl.cosE N k D n)]) ∧ Two w' w.heap.size v1 v2 (Pl.cosL (Pl.kroP D) N k D n)) ∧ Below w.heap.size w w' := by
  by_cases hc : Pl.check N k D = 0
  · by_cases hn : n < 1 ∨ 128 < n
    · obtain ⟨e1, e2⟩ := cosE_n (D := D) hc hn
      rw [e1, e2]
      have HK := Lib.hid hc
      clear hc e1 e2
      have fin : ∀ (e : Ending) (w' : World), e = .returned (.tuple #[.slice none 0 0, .slice none 0 0, .int .i64 2]) → Below w.heap.size w w' → (∃ v1 v2, e = .returned (.tuple #[v1, v2, .int .i64 2]) ∧ Two w' w.heap.size v1 v2 []) ∧ Below w.heap.size w w' :=
        fun e w' h1 h2 => ⟨⟨_, _, h1, Two.nil_ _ _⟩, h2⟩
      rcases hn with hn | hn
      · go_enter Tryd.func8, Tryd.ntmps8
        go_wp2_with (go_at_call 25; refine (c_Check N k D _).mono ?_; rw [HK.out]; rintro en w1 ⟨rfl, hb1⟩)
        go_ret3
        simp only [World.size_alloc] at hb1
        exact fin _ _ rfl (((Below.refl _ _).alloc (Nat.le_refl _) _).trans (hb1.mono (by omega)))
      · have hn1 : ¬ n < 1 := by omega
        go_enter Tryd.func8, Tryd.ntmps8
        go_wp2_with (go_at_call 25; refine (c_Check N k D _).mono ?_; rw [HK.out]; rintro en w1 ⟨rfl, hb1⟩)
        go_ret3
        simp only [World.size_alloc] at hb1
        exact fin _ _ rfl (((Below.refl _ _).alloc (Nat.le_refl _) _).trans (hb1.mono (by omega)))
    · have h1 : Pl.cosE N k D n = 0 := by unfold Pl.cosE; rw [if_neg (by omega), if_neg hn]
      have h2 : Pl.cosL (Pl.kroP D) N k D n = Pl.cosAt (Pl.kroP D) N.toNat n.toNat n.toNat := by unfold Pl.cosL; rw [if_pos h1]
      rw [h1, h2]
      obtain ⟨⟨a1, a2⟩, _, ⟨a3, a4⟩, _, _⟩ := Pl.check_ok hc
      obtain ⟨N, rfl⟩ := Int.eq_ofNat_of_zero_le (show 0 ≤ N by omega)
      obtain ⟨n, rfl⟩ := Int.eq_ofNat_of_zero_le (show 0 ≤ n by omega)
      simp only [Int.toNat_natCast]
      exact c_Cosets_in N n k D w hT (by omega) (by omega) a3 a4 (by omega) (by omega) hc
  · obtain ⟨e1, e2⟩ := cosE_check (n := n) hc
    rw [e1, e2]
    have hcb : (Pl.check N k D != 0) = true := by rw [bne_iff_ne]; exact hc
    have CK := fun w => c_Check N k D w
    generalize Pl.check N k D = c at hc hcb CK
    have HCK := Lib.hid CK
    clear CK hc e1 e2
    go_enter Tryd.func8, Tryd.ntmps8
    go_wp2_with (go_at_call 25; refine (HCK.out _).mono ?_; rintro en w1 ⟨rfl, hb1⟩)
    go_ret3
    simp only [World.size_alloc] at hb1
    exact ⟨⟨_, _, rfl, Two.nil_ _ _⟩, ((Below.refl _ _).alloc (Nat.le_refl _) _).trans (hb1.mono (by omega))⟩

set_option maxHeartbeats 4000000 in
set_option maxRecDepth 100000 in
theorem c_Cosets46_in (N n : Nat) (k D : Int) (w : World) (hN : 0 < N) (hN' : N ≤ 120) (hD : -120 ≤ D) (hD' : D ≤ 120) (hn : 0 < n) (hn' : n ≤ 128) (hck : Pl.check N k D = 0) :
    Calls Tryd.prog 9 #[spec N k D, .int .i64 n] w fun e w' => (∃ v1 v2, e = .returned (.tuple #[v1, v2, .int .i64 0]) ∧ Two w' w.heap.size v1 v2 (Pl.cosAt (Pl.chiR N D) N n n)) ∧ Below w.heap.size w w' := by
  have HK := Lib.hid hck
  clear hck
  go_enter Tryd.func9, Tryd.ntmps9
  go_wp2_with fail
  refine (c_Check31 N k D _).mono ?_
  rw [HK.out]
  rintro en w1 ⟨rfl, hb1⟩
  simp only [World.size_alloc] at hb1
  have B1 : Blk w1 w.heap.size 23 #[.int .i64 N, .int .i64 k, .int .i64 D] := (Blk.new w _ _).below_ hb1 (by omega)
  have W1 : Below w.heap.size w w1 := ((Below.refl _ _).alloc (Nat.le_refl _) _).trans (hb1.mono (by omega))
  have HB1 := Lib.hid B1
  have HW1 := Lib.hid W1
  clear hb1 B1 W1
  go_wp2
  all_goals try (exfalso; omega)
  go_loopw [8, 9, 10] (fun l f x wr => ∃ q : Nat, q ≤ n ∧ x = .int .i64 ((q + 1 : Nat) : Int) ∧ Two wr w.heap.size l f (Pl.cosAt (Pl.chiR N D) N n q) ∧ Blk wr w.heap.size 23 #[.int .i64 N, .int .i64 k, .int .i64 D] ∧ Below w.heap.size w wr ) (fun _ _ x _ => n + 1 - (intOf x).toNat)
  case atStart => exact ⟨0, Nat.zero_le _, rfl, Two.nil_ _ _, HB1.out, HW1.out⟩
  case round =>
    obtain ⟨q, hq, rfl, htwo, hB, hW⟩ := hrel
    have hsz := hW.size
    have HTW := Lib.hid htwo
    have HB := Lib.hid hB
    have HW := Lib.hid hW
    have d0 : wr.cell? ⟨w.heap.size, 0, none⟩ = some (.int .i64 N) := hB.at_ 0 rfl
    have d2 : wr.cell? ⟨w.heap.size, 2, none⟩ = some (.int .i64 D) := hB.at_ 2 rfl
    clear htwo hB hW
    obtain ⟨a, ha⟩ : ∃ a, q + 1 = a := ⟨_, rfl⟩
    rw [ha]
    have ha0 : 0 < a ∧ a ≤ n + 1 := by omega
    obtain ⟨ha0, ha1⟩ := ha0
    have HA := Lib.hid ha
    clear ha hq
    by_cases hle : a ≤ n
    · have hlen := Pl.cosAt_len (Pl.chiR N D) N n q
      have hqn : q * n ≤ 128 * 128 := Nat.mul_le_mul (by have := HA.out; omega) (by omega)
      have hB0 : w.heap.size < wr.heap.size := HB.out.lt
      by_cases hd : n % a = 0
      · have hdi : ((n : Int) % (a : Int) != 0) = false := by rw [← Int.natCast_emod, hd]; rfl
        have hHd := Lib.hid hd
        clear hd
        obtain ⟨g, hg⟩ : ∃ g, Nat.gcd a N = g := ⟨_, rfl⟩
        have HG := Lib.hid (show ((Int.gcd (a : Int) (N : Int) : Nat) : Int) = (g : Int) by rw [← hg]; rfl)
        have Hg := Lib.hid hg
        clear hg
        by_cases hg1 : g = 1
        · have hg1b : ((g : Int) != 1) = false := by rw [bne_eq_false_iff_eq]; omega
          obtain ⟨d, hdd⟩ : ∃ d, n / a = d := ⟨_, rfl⟩
          have hdv : (n : Int) / (a : Int) = (d : Int) := by rw [← hdd]; exact (Int.natCast_ediv _ _).symm
          have hdn : d ≤ 128 := by rw [← hdd]; exact Nat.le_trans (Nat.div_le_self _ _) hn'
          obtain ⟨c, hc⟩ : ∃ c, Pl.chiR N D a = c := ⟨_, rfl⟩
          have HC := Lib.hid hc
          have HDD := Lib.hid hdd
          have hstep := Pl.cosAt_yes (chi := Pl.chiR N D) (N := N) (n := n) (k := q) (by rw [HA.out]; exact hHd.out) (by rw [HA.out, Hg.out]; exact hg1)
          rw [HA.out, hdd] at hstep
          generalize hL : Pl.cosAt (Pl.chiR N D) N n q = L at hlen HTW hstep
          have HST := Lib.hid hstep
          have HL := Lib.hid hL
          have HG1 := Lib.hid hg1
          clear hc hdd hstep hL hg1
          go_wp2_with ((go_at_call 28; refine (c_gcd46 _ _ _ (by omega) (by omega) (by omega) (by omega)).mono ?_; rw [HG.out]; rintro e wx ⟨rfl, hqx⟩; have hbx := quiet_below hqx; have HBX := Lib.hid hbx; have e0 : wx.cell? ⟨w.heap.size, 0, none⟩ = some (.int .i64 N) := (hbx.cell hB0).trans d0; have e2 : wx.cell? ⟨w.heap.size, 2, none⟩ = some (.int .i64 D) := (hbx.cell hB0).trans d2; clear hbx hqx))
          obtain ⟨T2, B2, W2⟩ : Two wx w.heap.size u8 u9 L ∧ Blk wx w.heap.size 23 #[.int .i64 N, .int .i64 k, .int .i64 D] ∧ Below w.heap.size w wx :=
            ⟨HTW.out.keep HBX.out, HB.out.below_ HBX.out hB0, HW.out.trans (HBX.out.mono hsz)⟩
          have HT2 := Lib.hid T2
          have HB2 := Lib.hid B2
          have HW2 := Lib.hid W2
          clear T2 B2 W2 e0 e2 d0 d2
          obtain ⟨wo, rfl⟩ : ∃ wo : World, wo = wx := ⟨_, rfl⟩
          go_loopw [8, 9, 11] (fun l f x wr => ∃ j : Nat, j ≤ d ∧ x = .int .i64 j ∧ Two wr w.heap.size l f (L ++ Pl.cosRow (Pl.chiR N D) n a j) ∧ Blk wr w.heap.size 23 #[.int .i64 N, .int .i64 k, .int .i64 D] ∧ Below w.heap.size w wr) (fun _ _ x _ => d - (intOf x).toNat)
          case atStart => exact ⟨0, Nat.zero_le _, rfl, by rw [show Pl.cosRow (Pl.chiR N D) n a 0 = [] from rfl, List.append_nil]; exact HT2.out, HB2.out, HW2.out⟩
          case round =>
            obtain ⟨j, hj, rfl, htw, hBr, hWr⟩ := hrel
            have hsr := hWr.size
            have hlr : (L ++ Pl.cosRow (Pl.chiR N D) n a j).length ≤ 128 * 128 + 128 := by rw [List.length_append, Pl.cosRow_len]; omega
            by_cases hjd : j < d
            · have hsn : L ++ Pl.cosRow (Pl.chiR N D) n a (j + 1) = (L ++ Pl.cosRow (Pl.chiR N D) n a j) ++ [((a, j, d), c)] := by rw [Pl.cosRow_succ, List.append_assoc, HDD.out, HC.out]
              have HSN := Lib.hid hsn
              generalize L ++ Pl.cosRow (Pl.chiR N D) n a j = M at htw hlr HSN
              have HTr := Lib.hid htw
              have HBr := Lib.hid hBr
              have HWr := Lib.hid hWr
              clear hsn htw hBr hWr
              go_wp2_with (first | (at_builtin; refine wpl_app1 rfl (.tmp 46) (.tmp 53) _ 61 rfl Tryd.underlying25 matInfo rfl (by decide) w.heap.size M.length _ (M.flatMap matc) (matc ((a, j, d), c)) rfl HTr.out.mats rfl rfl (matc_one _) (by omega) (by omega) hsr ?_; intro v2 w2 hown2 hgr2 hat2; have hS1 := two_s1 HTr.out hown2 hgr2 HBr.out HWr.out hsr; have HO2 := Lib.hid hown2; have HS1 := Lib.hid hS1; have hs2 := hS1.2.2.2; have f0 : w2.cell? ⟨w.heap.size, 0, none⟩ = some (.int .i64 N) := hS1.2.1.at_ 0 rfl; have f1 : w2.cell? ⟨w.heap.size, 1, none⟩ = some (.int .i64 k) := hS1.2.1.at_ 1 rfl; have f2 : w2.cell? ⟨w.heap.size, 2, none⟩ = some (.int .i64 D) := hS1.2.1.at_ 2 rfl; clear hown2 hgr2 hS1) | (go_at_call 29; refine (c_Chi N a k D _ hN hN' hD hD').mono ?_; rw [HC.out]; rintro e wy ⟨rfl, hby⟩; have hS3 := two_chi HO2.out HS1.out.1 HS1.out.2.1 HS1.out.2.2.1 hs2 hby; have HS3 := Lib.hid hS3; have hs3 := hS3.2.2.2.2; clear hby hS3) | (at_builtin; refine wpl_app1 rfl (.tmp 55) (.tmp 59) _ 3 rfl Tryd.underlying26 intInfo rfl (by decide) w.heap.size M.length _ (M.flatMap facc) (facc ((a, j, d), c)) rfl HS3.out.2.1 rfl rfl (facc_one _) (by omega) (by omega) hs3 ?_; intro v3 w3 hown3 hgr3 hat3; have hS2 := two_s2 HS3.out.1 HS3.out.2.1 hown3 hgr3 HS3.out.2.2.1 HS3.out.2.2.2.1 hs3; have HS2 := Lib.hid hS2; clear hown3 hgr3 hS2))
              go_roundw
              case rel => exact ⟨j + 1, by omega, by go_num, by rw [HSN.out]; exact HS2.out.1, HS2.out.2.1, HS2.out.2.2⟩
              case measure => simp [intOf]; omega
            · have hje : j = d := by omega
              subst hje
              rw [← HST.out] at htw
              have HTr := Lib.hid htw
              have HBr := Lib.hid hBr
              have HWr := Lib.hid hWr
              clear htw hBr hWr
              go_wp2
              go_roundw
              case rel => exact ⟨q + 1, by have := HA.out; omega, by have := HA.out; go_num, by rw [HA.out]; exact HTr.out, HBr.out, HWr.out⟩
              case measure => simp [intOf]; omega
        · have hg1b : ((g : Int) != 1) = true := by rw [bne_iff_ne]; omega
          have hstep := Pl.cosAt_no (chi := Pl.chiR N D) (N := N) (n := n) (k := q) (.inr (by rw [HA.out, Hg.out]; exact hg1))
          have HST := Lib.hid hstep
          clear hstep hg1
          go_wp2_with (go_at_call 28; refine (c_gcd46 _ _ _ (by omega) (by omega) (by omega) (by omega)).mono ?_; rw [HG.out]; rintro e wx ⟨rfl, hqx⟩; have hbx := quiet_below hqx; have HBX := Lib.hid hbx; have e0 : wx.cell? ⟨w.heap.size, 0, none⟩ = some (.int .i64 N) := (hbx.cell hB0).trans d0; have e2 : wx.cell? ⟨w.heap.size, 2, none⟩ = some (.int .i64 D) := (hbx.cell hB0).trans d2; clear hbx hqx)
          go_roundw
          case rel => exact ⟨q + 1, by have := HA.out; omega, by have := HA.out; go_num, by rw [HST.out]; exact HTW.out.keep HBX.out, HB.out.below_ HBX.out hB0, HW.out.trans (HBX.out.mono hsz)⟩
          case measure => simp [intOf]; omega
      · have hdi : ((n : Int) % (a : Int) != 0) = true := by rw [← Int.natCast_emod, bne_iff_ne]; omega
        have hstep := Pl.cosAt_no (chi := Pl.chiR N D) (N := N) (n := n) (k := q) (.inl (by rw [HA.out]; exact hd))
        have HST := Lib.hid hstep
        clear hstep hd
        go_wp2
        go_roundw
        case rel => exact ⟨q + 1, by have := HA.out; omega, by have := HA.out; go_num, by rw [HST.out]; exact HTW.out, HB.out, HW.out⟩
        case measure => simp [intOf]; omega
    · have hqn : q = n := by have := HA.out; omega
      have HTW' : Two wr w.heap.size u8 u9 (Pl.cosAt (Pl.chiR N D) N n n) := by have := HTW.out; rw [hqn] at this; exact this
      have HTW2 := Lib.hid HTW'
      clear HTW' hqn
      go_wp2
      go_ret3
      exact ⟨⟨_, _, rfl, HTW2.out⟩, HW.out⟩

theorem c_Cosets46 (N k D n : Int) (w : World) :
    Calls Tryd.prog 9 #[spec N k D, .int .i64 n] w fun e w' => (∃ v1 v2, e = .returned (.tuple #[v1, v2, .int .i64 (Pl.cosE N k D n)]) ∧ Two w' w.heap.size v1 v2 (Pl.cosL (Pl.chiR N.toNat D) N k D n)) ∧ Below w.heap.size w w' := by
  by_cases hc : Pl.check N k D = 0
  · by_cases hn : n < 1 ∨ 128 < n
    · obtain ⟨e1, e2⟩ := cosE_n (D := D) hc hn
      rw [e1, e2]
      have HK := Lib.hid hc
      clear hc e1 e2
      have fin : ∀ (e : Ending) (w' : World), e = .returned (.tuple #[.slice none 0 0, .slice none 0 0, .int .i64 2]) → Below w.heap.size w w' → (∃ v1 v2, e = .returned (.tuple #[v1, v2, .int .i64 2]) ∧ Two w' w.heap.size v1 v2 []) ∧ Below w.heap.size w w' :=
        fun e w' h1 h2 => ⟨⟨_, _, h1, Two.nil_ _ _⟩, h2⟩
      rcases hn with hn | hn
      · go_enter Tryd.func9, Tryd.ntmps9
        go_wp2_with (go_at_call 27; refine (c_Check31 N k D _).mono ?_; rw [HK.out]; rintro en w1 ⟨rfl, hb1⟩)
        all_goals try (exfalso; omega)
        go_ret3
        simp only [World.size_alloc] at hb1
        exact fin _ _ rfl (((Below.refl _ _).alloc (Nat.le_refl _) _).trans (hb1.mono (by omega)))
      · have hn1 : ¬ n < 1 := by omega
        go_enter Tryd.func9, Tryd.ntmps9
        go_wp2_with (go_at_call 27; refine (c_Check31 N k D _).mono ?_; rw [HK.out]; rintro en w1 ⟨rfl, hb1⟩)
        all_goals try (exfalso; omega)
        go_ret3
        simp only [World.size_alloc] at hb1
        exact fin _ _ rfl (((Below.refl _ _).alloc (Nat.le_refl _) _).trans (hb1.mono (by omega)))
    · have h1 : Pl.cosE N k D n = 0 := by unfold Pl.cosE; rw [if_neg (by omega), if_neg hn]
      have h2 : Pl.cosL (Pl.chiR N.toNat D) N k D n = Pl.cosAt (Pl.chiR N.toNat D) N.toNat n.toNat n.toNat := by unfold Pl.cosL; rw [if_pos h1]
      rw [h1, h2]
      obtain ⟨⟨a1, a2⟩, _, ⟨a3, a4⟩, _, _⟩ := Pl.check_ok hc
      obtain ⟨N, rfl⟩ := Int.eq_ofNat_of_zero_le (show 0 ≤ N by omega)
      obtain ⟨n, rfl⟩ := Int.eq_ofNat_of_zero_le (show 0 ≤ n by omega)
      simp only [Int.toNat_natCast]
      exact c_Cosets46_in N n k D w (by omega) (by omega) a3 a4 (by omega) (by omega) hc
  · obtain ⟨e1, e2⟩ := cosE_check (n := n) hc
    rw [e1, e2]
    have hcb : (Pl.check N k D != 0) = true := by rw [bne_iff_ne]; exact hc
    have CK := fun w => c_Check31 N k D w
    generalize Pl.check N k D = c at hc hcb CK
    have HCK := Lib.hid CK
    clear CK hc e1 e2
    go_enter Tryd.func9, Tryd.ntmps9
    go_wp2_with (go_at_call 27; refine (HCK.out _).mono ?_; rintro en w1 ⟨rfl, hb1⟩)
    go_ret3
    simp only [World.size_alloc] at hb1
    exact ⟨⟨_, _, rfl, Two.nil_ _ _⟩, ((Below.refl _ _).alloc (Nat.le_refl _) _).trans (hb1.mono (by omega))⟩
end Go.Proofs.YthikonjlgljikaaDoor
