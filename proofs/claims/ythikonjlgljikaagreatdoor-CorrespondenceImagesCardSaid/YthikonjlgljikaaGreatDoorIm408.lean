/- Contracts of the two functions that list the matrices of T_n. Contracts of the statements' comparisons of lists of matrices and of ints, where the lists are equal. -/
import Derived.Test.YthikonjlgljikaaGreatDoorIm407
namespace Go.Proofs.YthikonjlgljikaaGreatDoor
open Go.RowKit

def matc (x : Pl.Cos) : List Value := [.int .i64 x.1.1, .int .i64 x.1.2.1, .int .i64 0, .int .i64 x.1.2.2]
def facc (x : Pl.Cos) : List Value := [.int .i64 x.2]
theorem matc_one (x : Pl.Cos) : ∀ u ∈ matc x, u.oneCell' = true := by intro u hu; simp [matc] at hu; rcases hu with rfl | rfl | rfl | rfl <;> rfl
theorem facc_one (x : Pl.Cos) : ∀ u ∈ facc x, u.oneCell' = true := by intro u hu; simp [facc] at hu; subst hu; rfl
theorem matInfo : (Tryz.prog.info? 97).map (fun i => (i.zero, i.size, i.bytes)) = some (some (.agg #[.int .i64 0, .int .i64 0, .int .i64 0, .int .i64 0]), 4, 32) := by kernel_rfl
theorem intInfo : (Tryz.prog.info? 3).map (fun i => (i.zero, i.size, i.bytes)) = some (some (.int .i64 0), 1, 8) := by kernel_rfl
/-- Two rows that hold a list of matrices and of factors. -/
structure Two (w : World) (B : Nat) (v1 v2 : Value) (L : List Pl.Cos) : Prop where
  mats : w.ownsRow B 97 4 v1 L.length (L.flatMap matc)
  facs : w.ownsRow B 3 1 v2 L.length (L.flatMap facc)
theorem Two.nil_ (w : World) (B : Nat) : Two w B (.slice none 0 0) (.slice none 0 0) [] := ⟨World.ownsRow_nil _ _ _ _, World.ownsRow_nil _ _ _ _⟩
theorem Two.keep {w w' : World} {B : Nat} {v1 v2 : Value} {L : List Pl.Cos} (h : Two w B v1 v2 L) (hb : Below w.heap.size w w') : Two w' B v1 v2 L := ⟨own_keep h.mats hb, own_keep h.facs hb⟩

theorem two_s1 {w W w2 : World} {B g : Nat} {cs : Array Value} {l f v2 : Value} {L : List Pl.Cos} {x : Pl.Cos} (h : Two W B l f L) (_ho : w2.ownsRow B 97 4 v2 (L.length + 1) (L.flatMap matc ++ matc x)) (hg : W.grownBy w2 l.ownBlock)
    (hB : Blk W g 23 cs) (hb : Below B w W) (hs : B ≤ W.heap.size) : w2.ownsRow B 3 1 f L.length (L.flatMap facc) ∧ Blk w2 g 23 cs ∧ Below B w w2 ∧ B ≤ w2.heap.size :=
  ⟨own_other h.facs h.mats (by decide) hg, own_blk hB h.mats (by decide) hg, own_below hb h.mats hg (Nat.le_refl _) hs, Nat.le_trans hs hg.size⟩
theorem two_s2 {w w2 w3 : World} {B g : Nat} {cs : Array Value} {f v2 v3 : Value} {L : List Pl.Cos} {x : Pl.Cos} (ho : w2.ownsRow B 97 4 v2 (L.length + 1) (L.flatMap matc ++ matc x)) (hf : w2.ownsRow B 3 1 f L.length (L.flatMap facc))
    (ho3 : w3.ownsRow B 3 1 v3 (L.length + 1) (L.flatMap facc ++ facc x)) (hg : w2.grownBy w3 f.ownBlock) (hB : Blk w2 g 23 cs) (hb : Below B w w2) (hs : B ≤ w2.heap.size) :
    Two w3 B v2 v3 (L ++ [x]) ∧ Blk w3 g 23 cs ∧ Below B w w3 :=
  ⟨⟨by rw [len_snoc, flat_snoc]; exact own_other ho hf (by decide) hg, by rw [len_snoc, flat_snoc]; exact ho3⟩, own_blk hB hf (by decide) hg, own_below hb hf hg (Nat.le_refl _) hs⟩
theorem cosE_check {N k D n : Int} (h : Pl.check N k D ≠ 0) : Pl.cosE N k D n = Pl.check N k D ∧ ∀ chi, Pl.cosL chi N k D n = [] := by
  have h1 : Pl.cosE N k D n = Pl.check N k D := by unfold Pl.cosE; rw [if_pos h]
  exact ⟨h1, fun chi => by unfold Pl.cosL; rw [if_neg (by rw [h1]; exact h)]⟩
theorem cosE_n {N k D n : Int} (h : Pl.check N k D = 0) (hn : n < 1 ∨ 128 < n) : Pl.cosE N k D n = 2 ∧ ∀ chi, Pl.cosL chi N k D n = [] := by
  have h1 : Pl.cosE N k D n = 2 := by unfold Pl.cosE; rw [if_neg (by omega), if_pos hn]
  exact ⟨h1, fun chi => by unfold Pl.cosL; rw [if_neg (by rw [h1]; decide)]⟩

theorem two_chi {w w2 w3 : World} {B g : Nat} {cs : Array Value} {f v2 : Value} {L : List Pl.Cos} {x : Pl.Cos} (ho : w2.ownsRow B 97 4 v2 (L.length + 1) (L.flatMap matc ++ matc x)) (hf : w2.ownsRow B 3 1 f L.length (L.flatMap facc))
    (hB : Blk w2 g 23 cs) (hb : Below B w w2) (hs : B ≤ w2.heap.size) (hk : Below w2.heap.size w2 w3) :
    w3.ownsRow B 97 4 v2 (L.length + 1) (L.flatMap matc ++ matc x) ∧ w3.ownsRow B 3 1 f L.length (L.flatMap facc) ∧ Blk w3 g 23 cs ∧ Below B w w3 ∧ B ≤ w3.heap.size :=
  ⟨own_keep ho hk, own_keep hf hk, hB.below_ hk hB.lt, hb.trans (hk.mono hs), Nat.le_trans hs hk.size⟩
set_option maxHeartbeats 4000000 in
set_option maxRecDepth 100000 in
theorem c_Cosets_in (N n : Nat) (k D : Int) (w : World) (hT : Tab w) (hN : 0 < N) (hN' : N ≤ 120) (hD : -120 ≤ D) (hD' : D ≤ 120) (hn : 0 < n) (hn' : n ≤ 128) (hck : Pl.check N k D = 0) :
    Calls Tryz.prog 45 #[spec N k D, .int .i64 n] w fun e w' => (∃ v1 v2, e = .returned (.tuple #[v1, v2, .int .i64 0]) ∧ Two w' w.heap.size v1 v2 (Pl.cosAt (Pl.kroP D) N n n)) ∧ Below w.heap.size w w' := by
  have HK := Lib.hid hck
  clear hck
  go_enter Tryz.func45, Tryz.ntmps45
  go_wp2_with fail
  refine (c_Check N k D _).mono ?_
  rw [HK.out]
  rintro en w1 ⟨rfl, hb1⟩
  simp only [World.size_alloc] at hb1
  have B1 : Blk w1 w.heap.size 23 #[.int .i64 N, .int .i64 k, .int .i64 D] := (Blk.new w _ _).below_ hb1 (by omega)
  have W1 : Below w.heap.size w w1 := ((Below.refl _ _).alloc (Nat.le_refl _) _).trans (hb1.mono (by omega))
  have HB1 := Lib.hid B1
  have HW1 := Lib.hid W1
  have HT := Lib.hid hT
  clear hb1 B1 W1 hT
  go_wp2
  go_loopw [8, 9, 10] (fun l f x wr => ∃ q : Nat, q ≤ n ∧ x = .int .i64 ((q + 1 : Nat) : Int) ∧ Two wr w.heap.size l f (Pl.cosAt (Pl.kroP D) N n q) ∧ Blk wr w.heap.size 23 #[.int .i64 N, .int .i64 k, .int .i64 D] ∧ Below w.heap.size w wr ) (fun _ _ x _ => n + 1 - (intOf x).toNat)
  case atStart => exact ⟨0, Nat.zero_le _, rfl, Two.nil_ _ _, HB1.out, HW1.out⟩
  case round =>
    obtain ⟨q, hq, rfl, htwo, hB, hW⟩ := hrel
    have hsz := hW.size
    have HTW := Lib.hid htwo
    have HB := Lib.hid hB
    have HW := Lib.hid hW
    have d0 : wr.cell? ⟨w.heap.size, 0, none⟩ = some (.int .i64 N) := hB.at_ 0 rfl
    have d2 : wr.cell? ⟨w.heap.size, 2, none⟩ = some (.int .i64 D) := hB.at_ 2 rfl
    clear htwo hB hW
    obtain ⟨a, ha⟩ : ∃ a, q + 1 = a := ⟨_, rfl⟩
    rw [ha]
    have ha0 : 0 < a ∧ a ≤ n + 1 := by omega
    obtain ⟨ha0, ha1⟩ := ha0
    have HA := Lib.hid ha
    clear ha hq
    by_cases hle : a ≤ n
    · have hlen := Pl.cosAt_len (Pl.kroP D) N n q
      have hqn : q * n ≤ 128 * 128 := Nat.mul_le_mul (by have := HA.out; omega) (by omega)
      have hB0 : w.heap.size < wr.heap.size := HB.out.lt
      by_cases hd : n % a = 0
      · have hdi : ((n : Int) % (a : Int) != 0) = false := by rw [← Int.natCast_emod, hd]; rfl
        have hHd := Lib.hid hd
        clear hd
        obtain ⟨g, hg⟩ : ∃ g, Nat.gcd a N = g := ⟨_, rfl⟩
        have HG := Lib.hid (show ((Int.gcd (a : Int) (N : Int) : Nat) : Int) = (g : Int) by rw [← hg]; rfl)
        have Hg := Lib.hid hg
        clear hg
        by_cases hg1 : g = 1
        · have hg1b : ((g : Int) != 1) = false := by rw [bne_eq_false_iff_eq]; omega
          obtain ⟨d, hdd⟩ : ∃ d, n / a = d := ⟨_, rfl⟩
          have hdv : (n : Int) / (a : Int) = (d : Int) := by rw [← hdd]; exact (Int.natCast_ediv _ _).symm
          have hdn : d ≤ 128 := by rw [← hdd]; exact Nat.le_trans (Nat.div_le_self _ _) hn'
          obtain ⟨c, hc⟩ : ∃ c, Pl.kroP D a = c := ⟨_, rfl⟩
          have HC := Lib.hid hc
          have HDD := Lib.hid hdd
          have hstep := Pl.cosAt_yes (chi := Pl.kroP D) (N := N) (n := n) (k := q) (by rw [HA.out]; exact hHd.out) (by rw [HA.out, Hg.out]; exact hg1)
          rw [HA.out, hdd] at hstep
          generalize hL : Pl.cosAt (Pl.kroP D) N n q = L at hlen HTW hstep
          have HST := Lib.hid hstep
          have HL := Lib.hid hL
          have HG1 := Lib.hid hg1
          clear hc hdd hstep hL hg1
          go_wp2_with (first | (go_at_call 87; refine (c_gcd _ _ _ (by omega) (by omega) (by omega) (by omega)).mono ?_; rw [HG.out]; rintro e wx ⟨rfl, hqx⟩; have hbx := quiet_below hqx; have HBX := Lib.hid hbx; have e0 : wx.cell? ⟨w.heap.size, 0, none⟩ = some (.int .i64 N) := (hbx.cell hB0).trans d0; have e2 : wx.cell? ⟨w.heap.size, 2, none⟩ = some (.int .i64 D) := (hbx.cell hB0).trans d2; clear hbx hqx) | (go_at_call 88; refine (c_Kronecker D a _ ((HT.out.below HW.out).below HBX.out) (by omega) (by omega) (by omega) (by omega)).mono ?_; rw [HC.out]; rintro e wy ⟨rfl, rfl⟩))
          obtain ⟨T2, B2, W2⟩ : Two wx w.heap.size u8 u9 L ∧ Blk wx w.heap.size 23 #[.int .i64 N, .int .i64 k, .int .i64 D] ∧ Below w.heap.size w wx :=
            ⟨HTW.out.keep HBX.out, HB.out.below_ HBX.out hB0, HW.out.trans (HBX.out.mono hsz)⟩
          have HT2 := Lib.hid T2
          have HB2 := Lib.hid B2
          have HW2 := Lib.hid W2
          clear T2 B2 W2 e0 e2 d0 d2
          obtain ⟨wo, rfl⟩ : ∃ wo : World, wo = wx := ⟨_, rfl⟩
          go_loopw [8, 9, 12] (fun l f x wr => ∃ j : Nat, j ≤ d ∧ x = .int .i64 j ∧ Two wr w.heap.size l f (L ++ Pl.cosRow (Pl.kroP D) n a j) ∧ Blk wr w.heap.size 23 #[.int .i64 N, .int .i64 k, .int .i64 D] ∧ Below w.heap.size w wr) (fun _ _ x _ => d - (intOf x).toNat)
          case atStart => exact ⟨0, Nat.zero_le _, rfl, by rw [show Pl.cosRow (Pl.kroP D) n a 0 = [] from rfl, List.append_nil]; exact HT2.out, HB2.out, HW2.out⟩
          case round =>
            obtain ⟨j, hj, rfl, htw, hBr, hWr⟩ := hrel
            have hsr := hWr.size
            have hlr : (L ++ Pl.cosRow (Pl.kroP D) n a j).length ≤ 128 * 128 + 128 := by rw [List.length_append, Pl.cosRow_len]; omega
            by_cases hjd : j < d
            · have hsn : L ++ Pl.cosRow (Pl.kroP D) n a (j + 1) = (L ++ Pl.cosRow (Pl.kroP D) n a j) ++ [((a, j, d), c)] := by rw [Pl.cosRow_succ, List.append_assoc, HDD.out, HC.out]
              have HSN := Lib.hid hsn
              generalize L ++ Pl.cosRow (Pl.kroP D) n a j = M at htw hlr HSN
              have HTr := Lib.hid htw
              have HBr := Lib.hid hBr
              have HWr := Lib.hid hWr
              clear hsn htw hBr hWr
              go_wp2_with (first | (at_builtin; refine wpl_app1 rfl (.tmp 51) (.tmp 58) _ 97 rfl Tryz.underlying92 matInfo rfl (by decide) w.heap.size M.length _ (M.flatMap matc) (matc ((a, j, d), c)) rfl HTr.out.mats rfl rfl (matc_one _) (by omega) (by omega) hsr ?_; intro v2 w2 hown2 hgr2 hat2; have hS1 := two_s1 HTr.out hown2 hgr2 HBr.out HWr.out hsr; have HO2 := Lib.hid hown2; have HS1 := Lib.hid hS1; have hs2 := hS1.2.2.2; clear hown2 hgr2 hS1) | (at_builtin; refine wpl_app1 rfl (.tmp 60) (.tmp 62) _ 3 rfl Tryz.underlying49 intInfo rfl (by decide) w.heap.size M.length _ (M.flatMap facc) (facc ((a, j, d), c)) rfl HS1.out.1 rfl rfl (facc_one _) (by omega) (by omega) hs2 ?_; intro v3 w3 hown3 hgr3 hat3; have hS2 := two_s2 HO2.out HS1.out.1 hown3 hgr3 HS1.out.2.1 HS1.out.2.2.1 hs2; have HS2 := Lib.hid hS2; clear hown3 hgr3 hS2))
              go_roundw
              case rel => exact ⟨j + 1, by omega, by go_num, by rw [HSN.out]; exact HS2.out.1, HS2.out.2.1, HS2.out.2.2⟩
              case measure => simp [intOf]; omega
            · have hje : j = d := by omega
              subst hje
              rw [← HST.out] at htw
              have HTr := Lib.hid htw
              have HBr := Lib.hid hBr
              have HWr := Lib.hid hWr
              clear htw hBr hWr
              go_wp2
              go_roundw
              case rel => exact ⟨q + 1, by have := HA.out; omega, by have := HA.out; go_num, by rw [HA.out]; exact HTr.out, HBr.out, HWr.out⟩
              case measure => simp [intOf]; omega
        · have hg1b : ((g : Int) != 1) = true := by rw [bne_iff_ne]; omega
          have hstep := Pl.cosAt_no (chi := Pl.kroP D) (N := N) (n := n) (k := q) (.inr (by rw [HA.out, Hg.out]; exact hg1))
          have HST := Lib.hid hstep
          clear hstep hg1
          go_wp2_with (go_at_call 87; refine (c_gcd _ _ _ (by omega) (by omega) (by omega) (by omega)).mono ?_; rw [HG.out]; rintro e wx ⟨rfl, hqx⟩; have hbx := quiet_below hqx; have HBX := Lib.hid hbx; have e0 : wx.cell? ⟨w.heap.size, 0, none⟩ = some (.int .i64 N) := (hbx.cell hB0).trans d0; have e2 : wx.cell? ⟨w.heap.size, 2, none⟩ = some (.int .i64 D) := (hbx.cell hB0).trans d2; clear hbx hqx)
          go_roundw
          case rel => exact ⟨q + 1, by have := HA.out; omega, by have := HA.out; go_num, by rw [HST.out]; exact HTW.out.keep HBX.out, HB.out.below_ HBX.out hB0, HW.out.trans (HBX.out.mono hsz)⟩
          case measure => simp [intOf]; omega
      · have hdi : ((n : Int) % (a : Int) != 0) = true := by rw [← Int.natCast_emod, bne_iff_ne]; omega
        have hstep := Pl.cosAt_no (chi := Pl.kroP D) (N := N) (n := n) (k := q) (.inl (by rw [HA.out]; exact hd))
        have HST := Lib.hid hstep
        clear hstep hd
        go_wp2
        go_roundw
        case rel => exact ⟨q + 1, by have := HA.out; omega, by have := HA.out; go_num, by rw [HST.out]; exact HTW.out, HB.out, HW.out⟩
        case measure => simp [intOf]; omega
    · have hqn : q = n := by have := HA.out; omega
      have HTW' : Two wr w.heap.size u8 u9 (Pl.cosAt (Pl.kroP D) N n n) := by have := HTW.out; rw [hqn] at this; exact this
      have HTW2 := Lib.hid HTW'
      clear HTW' hqn
      go_wp2
      go_ret3
      exact ⟨⟨_, _, rfl, HTW2.out⟩, HW.out⟩

theorem c_Cosets (N k D n : Int) (w : World) (hT : Tab w) :
    Calls Tryz.prog 45 #[spec N k D, .int .i64 n] w fun e w' => (∃ v1 v2, e = .returned (.tuple #[v1, v2, .int .i64 (Pl.cosE N k D n)]) ∧ Two w' w.heap.size v1 v2 (Pl.cosL (Pl.kroP D) N k D n)) ∧ Below w.heap.size w w' := by
  by_cases hc : Pl.check N k D = 0
  · by_cases hn : n < 1 ∨ 128 < n
    · obtain ⟨e1, e2⟩ := cosE_n (D := D) hc hn
      rw [e1, e2]
      have HK := Lib.hid hc
      clear hc e1 e2
      have fin : ∀ (e : Ending) (w' : World), e = .returned (.tuple #[.slice none 0 0, .slice none 0 0, .int .i64 2]) → Below w.heap.size w w' → (∃ v1 v2, e = .returned (.tuple #[v1, v2, .int .i64 2]) ∧ Two w' w.heap.size v1 v2 []) ∧ Below w.heap.size w w' :=
        fun e w' h1 h2 => ⟨⟨_, _, h1, Two.nil_ _ _⟩, h2⟩
      rcases hn with hn | hn
      · go_enter Tryz.func45, Tryz.ntmps45
        go_wp2_with (go_at_call 86; refine (c_Check N k D _).mono ?_; rw [HK.out]; rintro en w1 ⟨rfl, hb1⟩)
        go_ret3
        simp only [World.size_alloc] at hb1
        exact fin _ _ rfl (((Below.refl _ _).alloc (Nat.le_refl _) _).trans (hb1.mono (by omega)))
      · have hn1 : ¬ n < 1 := by omega
        go_enter Tryz.func45, Tryz.ntmps45
        go_wp2_with (go_at_call 86; refine (c_Check N k D _).mono ?_; rw [HK.out]; rintro en w1 ⟨rfl, hb1⟩)
        go_ret3
        simp only [World.size_alloc] at hb1
        exact fin _ _ rfl (((Below.refl _ _).alloc (Nat.le_refl _) _).trans (hb1.mono (by omega)))
    · have h1 : Pl.cosE N k D n = 0 := by unfold Pl.cosE; rw [if_neg (by omega), if_neg hn]
      have h2 : Pl.cosL (Pl.kroP D) N k D n = Pl.cosAt (Pl.kroP D) N.toNat n.toNat n.toNat := by unfold Pl.cosL; rw [if_pos h1]
      rw [h1, h2]
      obtain ⟨⟨a1, a2⟩, _, ⟨a3, a4⟩, _, _⟩ := Pl.check_ok hc
      obtain ⟨N, rfl⟩ := Int.eq_ofNat_of_zero_le (show 0 ≤ N by omega)
      obtain ⟨n, rfl⟩ := Int.eq_ofNat_of_zero_le (show 0 ≤ n by omega)
      simp only [Int.toNat_natCast]
      exact c_Cosets_in N n k D w hT (by omega) (by omega) a3 a4 (by omega) (by omega) hc
  · obtain ⟨e1, e2⟩ := cosE_check (n := n) hc
    rw [e1, e2]
    have hcb : (Pl.check N k D != 0) = true := by rw [bne_iff_ne]; exact hc
    have CK := fun w => c_Check N k D w
    generalize Pl.check N k D = c at hc hcb CK
    have HCK := Lib.hid CK
    clear CK hc e1 e2
    go_enter Tryz.func45, Tryz.ntmps45
    go_wp2_with (go_at_call 86; refine (HCK.out _).mono ?_; rintro en w1 ⟨rfl, hb1⟩)
    go_ret3
    simp only [World.size_alloc] at hb1
    exact ⟨⟨_, _, rfl, Two.nil_ _ _⟩, ((Below.refl _ _).alloc (Nat.le_refl _) _).trans (hb1.mono (by omega))⟩

set_option maxHeartbeats 4000000 in
set_option maxRecDepth 100000 in
theorem c_Cosets46_in (N n : Nat) (k D : Int) (w : World) (hN : 0 < N) (hN' : N ≤ 120) (hD : -120 ≤ D) (hD' : D ≤ 120) (hn : 0 < n) (hn' : n ≤ 128) (hck : Pl.check N k D = 0) :
    Calls Tryz.prog 50 #[spec N k D, .int .i64 n] w fun e w' => (∃ v1 v2, e = .returned (.tuple #[v1, v2, .int .i64 0]) ∧ Two w' w.heap.size v1 v2 (Pl.cosAt (Pl.chiR N D) N n n)) ∧ Below w.heap.size w w' := by
  have HK := Lib.hid hck
  clear hck
  go_enter Tryz.func50, Tryz.ntmps50
  go_wp2_with fail
  refine (c_Check31 N k D _).mono ?_
  rw [HK.out]
  rintro en w1 ⟨rfl, hb1⟩
  simp only [World.size_alloc] at hb1
  have B1 : Blk w1 w.heap.size 23 #[.int .i64 N, .int .i64 k, .int .i64 D] := (Blk.new w _ _).below_ hb1 (by omega)
  have W1 : Below w.heap.size w w1 := ((Below.refl _ _).alloc (Nat.le_refl _) _).trans (hb1.mono (by omega))
  have HB1 := Lib.hid B1
  have HW1 := Lib.hid W1
  clear hb1 B1 W1
  go_wp2
  all_goals try (exfalso; omega)
  go_loopw [8, 9, 10] (fun l f x wr => ∃ q : Nat, q ≤ n ∧ x = .int .i64 ((q + 1 : Nat) : Int) ∧ Two wr w.heap.size l f (Pl.cosAt (Pl.chiR N D) N n q) ∧ Blk wr w.heap.size 23 #[.int .i64 N, .int .i64 k, .int .i64 D] ∧ Below w.heap.size w wr ) (fun _ _ x _ => n + 1 - (intOf x).toNat)
  case atStart => exact ⟨0, Nat.zero_le _, rfl, Two.nil_ _ _, HB1.out, HW1.out⟩
  case round =>
    obtain ⟨q, hq, rfl, htwo, hB, hW⟩ := hrel
    have hsz := hW.size
    have HTW := Lib.hid htwo
    have HB := Lib.hid hB
    have HW := Lib.hid hW
    have d0 : wr.cell? ⟨w.heap.size, 0, none⟩ = some (.int .i64 N) := hB.at_ 0 rfl
    have d2 : wr.cell? ⟨w.heap.size, 2, none⟩ = some (.int .i64 D) := hB.at_ 2 rfl
    clear htwo hB hW
    obtain ⟨a, ha⟩ : ∃ a, q + 1 = a := ⟨_, rfl⟩
    rw [ha]
    have ha0 : 0 < a ∧ a ≤ n + 1 := by omega
    obtain ⟨ha0, ha1⟩ := ha0
    have HA := Lib.hid ha
    clear ha hq
    by_cases hle : a ≤ n
    · have hlen := Pl.cosAt_len (Pl.chiR N D) N n q
      have hqn : q * n ≤ 128 * 128 := Nat.mul_le_mul (by have := HA.out; omega) (by omega)
      have hB0 : w.heap.size < wr.heap.size := HB.out.lt
      by_cases hd : n % a = 0
      · have hdi : ((n : Int) % (a : Int) != 0) = false := by rw [← Int.natCast_emod, hd]; rfl
        have hHd := Lib.hid hd
        clear hd
        obtain ⟨g, hg⟩ : ∃ g, Nat.gcd a N = g := ⟨_, rfl⟩
        have HG := Lib.hid (show ((Int.gcd (a : Int) (N : Int) : Nat) : Int) = (g : Int) by rw [← hg]; rfl)
        have Hg := Lib.hid hg
        clear hg
        by_cases hg1 : g = 1
        · have hg1b : ((g : Int) != 1) = false := by rw [bne_eq_false_iff_eq]; omega
          obtain ⟨d, hdd⟩ : ∃ d, n / a = d := ⟨_, rfl⟩
          have hdv : (n : Int) / (a : Int) = (d : Int) := by rw [← hdd]; exact (Int.natCast_ediv _ _).symm
          have hdn : d ≤ 128 := by rw [← hdd]; exact Nat.le_trans (Nat.div_le_self _ _) hn'
          obtain ⟨c, hc⟩ : ∃ c, Pl.chiR N D a = c := ⟨_, rfl⟩
          have HC := Lib.hid hc
          have HDD := Lib.hid hdd
          have hstep := Pl.cosAt_yes (chi := Pl.chiR N D) (N := N) (n := n) (k := q) (by rw [HA.out]; exact hHd.out) (by rw [HA.out, Hg.out]; exact hg1)
          rw [HA.out, hdd] at hstep
          generalize hL : Pl.cosAt (Pl.chiR N D) N n q = L at hlen HTW hstep
          have HST := Lib.hid hstep
          have HL := Lib.hid hL
          have HG1 := Lib.hid hg1
          clear hc hdd hstep hL hg1
          go_wp2_with ((go_at_call 93; refine (c_gcd46 _ _ _ (by omega) (by omega) (by omega) (by omega)).mono ?_; rw [HG.out]; rintro e wx ⟨rfl, hqx⟩; have hbx := quiet_below hqx; have HBX := Lib.hid hbx; have e0 : wx.cell? ⟨w.heap.size, 0, none⟩ = some (.int .i64 N) := (hbx.cell hB0).trans d0; have e2 : wx.cell? ⟨w.heap.size, 2, none⟩ = some (.int .i64 D) := (hbx.cell hB0).trans d2; clear hbx hqx))
          obtain ⟨T2, B2, W2⟩ : Two wx w.heap.size u8 u9 L ∧ Blk wx w.heap.size 23 #[.int .i64 N, .int .i64 k, .int .i64 D] ∧ Below w.heap.size w wx :=
            ⟨HTW.out.keep HBX.out, HB.out.below_ HBX.out hB0, HW.out.trans (HBX.out.mono hsz)⟩
          have HT2 := Lib.hid T2
          have HB2 := Lib.hid B2
          have HW2 := Lib.hid W2
          clear T2 B2 W2 e0 e2 d0 d2
          obtain ⟨wo, rfl⟩ : ∃ wo : World, wo = wx := ⟨_, rfl⟩
          go_loopw [8, 9, 11] (fun l f x wr => ∃ j : Nat, j ≤ d ∧ x = .int .i64 j ∧ Two wr w.heap.size l f (L ++ Pl.cosRow (Pl.chiR N D) n a j) ∧ Blk wr w.heap.size 23 #[.int .i64 N, .int .i64 k, .int .i64 D] ∧ Below w.heap.size w wr) (fun _ _ x _ => d - (intOf x).toNat)
          case atStart => exact ⟨0, Nat.zero_le _, rfl, by rw [show Pl.cosRow (Pl.chiR N D) n a 0 = [] from rfl, List.append_nil]; exact HT2.out, HB2.out, HW2.out⟩
          case round =>
            obtain ⟨j, hj, rfl, htw, hBr, hWr⟩ := hrel
            have hsr := hWr.size
            have hlr : (L ++ Pl.cosRow (Pl.chiR N D) n a j).length ≤ 128 * 128 + 128 := by rw [List.length_append, Pl.cosRow_len]; omega
            by_cases hjd : j < d
            · have hsn : L ++ Pl.cosRow (Pl.chiR N D) n a (j + 1) = (L ++ Pl.cosRow (Pl.chiR N D) n a j) ++ [((a, j, d), c)] := by rw [Pl.cosRow_succ, List.append_assoc, HDD.out, HC.out]
              have HSN := Lib.hid hsn
              generalize L ++ Pl.cosRow (Pl.chiR N D) n a j = M at htw hlr HSN
              have HTr := Lib.hid htw
              have HBr := Lib.hid hBr
              have HWr := Lib.hid hWr
              clear hsn htw hBr hWr
              go_wp2_with (first | (at_builtin; refine wpl_app1 rfl (.tmp 46) (.tmp 53) _ 97 rfl Tryz.underlying92 matInfo rfl (by decide) w.heap.size M.length _ (M.flatMap matc) (matc ((a, j, d), c)) rfl HTr.out.mats rfl rfl (matc_one _) (by omega) (by omega) hsr ?_; intro v2 w2 hown2 hgr2 hat2; have hS1 := two_s1 HTr.out hown2 hgr2 HBr.out HWr.out hsr; have HO2 := Lib.hid hown2; have HS1 := Lib.hid hS1; have hs2 := hS1.2.2.2; have f0 : w2.cell? ⟨w.heap.size, 0, none⟩ = some (.int .i64 N) := hS1.2.1.at_ 0 rfl; have f1 : w2.cell? ⟨w.heap.size, 1, none⟩ = some (.int .i64 k) := hS1.2.1.at_ 1 rfl; have f2 : w2.cell? ⟨w.heap.size, 2, none⟩ = some (.int .i64 D) := hS1.2.1.at_ 2 rfl; clear hown2 hgr2 hS1) | (go_at_call 94; refine (c_Chi N a k D _ hN hN' hD hD').mono ?_; rw [HC.out]; rintro e wy ⟨rfl, hby⟩; have hS3 := two_chi HO2.out HS1.out.1 HS1.out.2.1 HS1.out.2.2.1 hs2 hby; have HS3 := Lib.hid hS3; have hs3 := hS3.2.2.2.2; clear hby hS3) | (at_builtin; refine wpl_app1 rfl (.tmp 55) (.tmp 59) _ 3 rfl Tryz.underlying49 intInfo rfl (by decide) w.heap.size M.length _ (M.flatMap facc) (facc ((a, j, d), c)) rfl HS3.out.2.1 rfl rfl (facc_one _) (by omega) (by omega) hs3 ?_; intro v3 w3 hown3 hgr3 hat3; have hS2 := two_s2 HS3.out.1 HS3.out.2.1 hown3 hgr3 HS3.out.2.2.1 HS3.out.2.2.2.1 hs3; have HS2 := Lib.hid hS2; clear hown3 hgr3 hS2))
              go_roundw
              case rel => exact ⟨j + 1, by omega, by go_num, by rw [HSN.out]; exact HS2.out.1, HS2.out.2.1, HS2.out.2.2⟩
              case measure => simp [intOf]; omega
            · have hje : j = d := by omega
              subst hje
              rw [← HST.out] at htw
              have HTr := Lib.hid htw
              have HBr := Lib.hid hBr
              have HWr := Lib.hid hWr
              clear htw hBr hWr
              go_wp2
              go_roundw
              case rel => exact ⟨q + 1, by have := HA.out; omega, by have := HA.out; go_num, by rw [HA.out]; exact HTr.out, HBr.out, HWr.out⟩
              case measure => simp [intOf]; omega
        · have hg1b : ((g : Int) != 1) = true := by rw [bne_iff_ne]; omega
          have hstep := Pl.cosAt_no (chi := Pl.chiR N D) (N := N) (n := n) (k := q) (.inr (by rw [HA.out, Hg.out]; exact hg1))
          have HST := Lib.hid hstep
          clear hstep hg1
          go_wp2_with (go_at_call 93; refine (c_gcd46 _ _ _ (by omega) (by omega) (by omega) (by omega)).mono ?_; rw [HG.out]; rintro e wx ⟨rfl, hqx⟩; have hbx := quiet_below hqx; have HBX := Lib.hid hbx; have e0 : wx.cell? ⟨w.heap.size, 0, none⟩ = some (.int .i64 N) := (hbx.cell hB0).trans d0; have e2 : wx.cell? ⟨w.heap.size, 2, none⟩ = some (.int .i64 D) := (hbx.cell hB0).trans d2; clear hbx hqx)
          go_roundw
          case rel => exact ⟨q + 1, by have := HA.out; omega, by have := HA.out; go_num, by rw [HST.out]; exact HTW.out.keep HBX.out, HB.out.below_ HBX.out hB0, HW.out.trans (HBX.out.mono hsz)⟩
          case measure => simp [intOf]; omega
      · have hdi : ((n : Int) % (a : Int) != 0) = true := by rw [← Int.natCast_emod, bne_iff_ne]; omega
        have hstep := Pl.cosAt_no (chi := Pl.chiR N D) (N := N) (n := n) (k := q) (.inl (by rw [HA.out]; exact hd))
        have HST := Lib.hid hstep
        clear hstep hd
        go_wp2
        go_roundw
        case rel => exact ⟨q + 1, by have := HA.out; omega, by have := HA.out; go_num, by rw [HST.out]; exact HTW.out, HB.out, HW.out⟩
        case measure => simp [intOf]; omega
    · have hqn : q = n := by have := HA.out; omega
      have HTW' : Two wr w.heap.size u8 u9 (Pl.cosAt (Pl.chiR N D) N n n) := by have := HTW.out; rw [hqn] at this; exact this
      have HTW2 := Lib.hid HTW'
      clear HTW' hqn
      go_wp2
      go_ret3
      exact ⟨⟨_, _, rfl, HTW2.out⟩, HW.out⟩

theorem c_Cosets46 (N k D n : Int) (w : World) :
    Calls Tryz.prog 50 #[spec N k D, .int .i64 n] w fun e w' => (∃ v1 v2, e = .returned (.tuple #[v1, v2, .int .i64 (Pl.cosE N k D n)]) ∧ Two w' w.heap.size v1 v2 (Pl.cosL (Pl.chiR N.toNat D) N k D n)) ∧ Below w.heap.size w w' := by
  by_cases hc : Pl.check N k D = 0
  · by_cases hn : n < 1 ∨ 128 < n
    · obtain ⟨e1, e2⟩ := cosE_n (D := D) hc hn
      rw [e1, e2]
      have HK := Lib.hid hc
      clear hc e1 e2
      have fin : ∀ (e : Ending) (w' : World), e = .returned (.tuple #[.slice none 0 0, .slice none 0 0, .int .i64 2]) → Below w.heap.size w w' → (∃ v1 v2, e = .returned (.tuple #[v1, v2, .int .i64 2]) ∧ Two w' w.heap.size v1 v2 []) ∧ Below w.heap.size w w' :=
        fun e w' h1 h2 => ⟨⟨_, _, h1, Two.nil_ _ _⟩, h2⟩
      rcases hn with hn | hn
      · go_enter Tryz.func50, Tryz.ntmps50
        go_wp2_with (go_at_call 92; refine (c_Check31 N k D _).mono ?_; rw [HK.out]; rintro en w1 ⟨rfl, hb1⟩)
        all_goals try (exfalso; omega)
        go_ret3
        simp only [World.size_alloc] at hb1
        exact fin _ _ rfl (((Below.refl _ _).alloc (Nat.le_refl _) _).trans (hb1.mono (by omega)))
      · have hn1 : ¬ n < 1 := by omega
        go_enter Tryz.func50, Tryz.ntmps50
        go_wp2_with (go_at_call 92; refine (c_Check31 N k D _).mono ?_; rw [HK.out]; rintro en w1 ⟨rfl, hb1⟩)
        all_goals try (exfalso; omega)
        go_ret3
        simp only [World.size_alloc] at hb1
        exact fin _ _ rfl (((Below.refl _ _).alloc (Nat.le_refl _) _).trans (hb1.mono (by omega)))
    · have h1 : Pl.cosE N k D n = 0 := by unfold Pl.cosE; rw [if_neg (by omega), if_neg hn]
      have h2 : Pl.cosL (Pl.chiR N.toNat D) N k D n = Pl.cosAt (Pl.chiR N.toNat D) N.toNat n.toNat n.toNat := by unfold Pl.cosL; rw [if_pos h1]
      rw [h1, h2]
      obtain ⟨⟨a1, a2⟩, _, ⟨a3, a4⟩, _, _⟩ := Pl.check_ok hc
      obtain ⟨N, rfl⟩ := Int.eq_ofNat_of_zero_le (show 0 ≤ N by omega)
      obtain ⟨n, rfl⟩ := Int.eq_ofNat_of_zero_le (show 0 ≤ n by omega)
      simp only [Int.toNat_natCast]
      exact c_Cosets46_in N n k D w (by omega) (by omega) a3 a4 (by omega) (by omega) hc
  · obtain ⟨e1, e2⟩ := cosE_check (n := n) hc
    rw [e1, e2]
    have hcb : (Pl.check N k D != 0) = true := by rw [bne_iff_ne]; exact hc
    have CK := fun w => c_Check31 N k D w
    generalize Pl.check N k D = c at hc hcb CK
    have HCK := Lib.hid CK
    clear CK hc e1 e2
    go_enter Tryz.func50, Tryz.ntmps50
    go_wp2_with (go_at_call 92; refine (HCK.out _).mono ?_; rintro en w1 ⟨rfl, hb1⟩)
    go_ret3
    simp only [World.size_alloc] at hb1
    exact ⟨⟨_, _, rfl, Two.nil_ _ _⟩, ((Below.refl _ _).alloc (Nat.le_refl _) _).trans (hb1.mono (by omega))⟩
end Go.Proofs.YthikonjlgljikaaGreatDoor
namespace Go.Proofs.YthikonjlgljikaaGreatDoor
open Go.RowKit

/-- A slice that reads as a list of cells. -/
def Rd (w : World) (sz : Nat) (v : Value) (n : Nat) (xs : List Value) : Prop :=
  xs.length = n * sz ∧ ((n = 0 ∧ ∃ a c, v = .slice a 0 c) ∨ ∃ g o cap, v = .slice (some ⟨g, o, none⟩) n cap ∧ g < w.heap.size ∧ ∀ j u, xs[j]? = some u → w.cell? ⟨g, o + j, none⟩ = some u)
theorem Rd.of_own {w : World} {B E sz n : Nat} {v : Value} {xs : List Value} (h : w.ownsRow B E sz v n xs) : Rd w sz v n xs := by
  refine ⟨h.1, ?_⟩
  rcases own_shape h with ⟨rfl, rfl, _⟩ | ⟨g, cap, rfl, _, hg, _⟩
  · exact .inl ⟨rfl, _, _, rfl⟩
  · exact .inr ⟨g, 0, cap, rfl, hg, fun j u hj => by rw [Nat.zero_add]; exact own_read h hj⟩
theorem Rd.keep {w w' : World} {sz n : Nat} {v : Value} {xs : List Value} (h : Rd w sz v n xs) (hb : Below w.heap.size w w') : Rd w' sz v n xs := by
  refine ⟨h.1, ?_⟩
  rcases h.2 with h1 | ⟨g, o, cap, e, hg, hc⟩
  · exact .inl h1
  · exact .inr ⟨g, o, cap, e, Nat.lt_of_lt_of_le hg hb.size, fun j u hj => (hb.cell (p := ⟨g, o + j, none⟩) hg).trans (hc j u hj)⟩
theorem flat_at {α : Type} (f : α → List Value) (sz : Nat) (hf : ∀ x, (f x).length = sz) (l : List α) (k : Nat) (h : k < l.length) (i : Nat) (hi : i < sz) : (l.flatMap f)[k * sz + i]? = (f l[k])[i]? := by
  induction l generalizing k with
  | nil => simp at h
  | cons x l ih =>
    rw [List.flatMap_cons]
    cases k with
    | zero => rw [Nat.zero_mul, Nat.zero_add, List.getElem?_append_left (by rw [hf]; exact hi)]; rfl
    | succ k =>
      rw [List.getElem?_append_right (by rw [hf, Nat.succ_mul]; omega), hf, show (k + 1) * sz + i - sz = k * sz + i from by rw [Nat.succ_mul]; omega, ih k (by simpa using h)]
      rfl
/-- The cells of element k. -/
theorem Rd.cells {α : Type} {w : World} {sz g o : Nat} {f : α → List Value} {l : List α} (hf : ∀ x, (f x).length = sz) (hc : ∀ j u, (l.flatMap f)[j]? = some u → w.cell? ⟨g, o + j, none⟩ = some u) {k : Nat} (h : k < l.length) {i : Nat} {u : Value} (hu : (f l[k])[i]? = some u) :
    w.cell? ⟨g, o + (k * sz + i), none⟩ = some u := by
  refine hc _ _ ?_
  have hi : i < sz := by
    rw [← hf l[k]]
    rcases Nat.lt_or_ge i (f l[k]).length with hlt | hge
    · exact hlt
    · rw [List.getElem?_eq_none hge] at hu; cases hu
  rw [flat_at f sz hf l k h i hi]; exact hu

theorem c_Same_eq (v1 v2 : Value) (L : List Pl.Cos) (w : World) (h1 : Rd w 4 v1 L.length (L.flatMap matc)) (h2 : Rd w 4 v2 L.length (L.flatMap matc)) (hl : L.length ≤ 1000000) :
    Calls Tryz.prog 46 #[v1, v2] w fun e w' => e = .returned (.bool true) ∧ ∃ n, w' = w.drewN n := by
  by_cases h0 : L.length = 0
  · have e1 : ∃ a c, v1 = .slice a 0 c := by
      rcases h1.2 with ⟨_, h⟩ | ⟨_, _, _, e, _⟩
      · exact h
      · exact ⟨_, _, by rw [e, h0]⟩
    have e2 : ∃ a c, v2 = .slice a 0 c := by
      rcases h2.2 with ⟨_, h⟩ | ⟨_, _, _, e, _⟩
      · exact h
      · exact ⟨_, _, by rw [e, h0]⟩
    obtain ⟨a1, c1, rfl⟩ := e1
    obtain ⟨a2, c2, rfl⟩ := e2
    clear h1 h2 h0
    go_enter Tryz.func46, Tryz.ntmps46
    go_wp2
    go_loop [5] (fun i => i = .int .i64 0) (fun _ => 0)
    case atStart => rfl
    case round =>
      obtain rfl := hrel
      go_wp2
      go_ret
      exact ⟨rfl, 0, rfl⟩
  · obtain ⟨g1, o1, c1, rfl, _, r1⟩ := h1.2.resolve_left (fun h => h0 h.1)
    obtain ⟨g2, o2, c2, rfl, _, r2⟩ := h2.2.resolve_left (fun h => h0 h.1)
    have R1 := Lib.hid r1
    have R2 := Lib.hid r2
    clear h1 h2 r1 r2 h0
    go_enter Tryz.func46, Tryz.ntmps46
    go_wp2
    go_loopw [5] (fun i wr => ∃ k : Nat, k ≤ L.length ∧ i = .int .i64 k ∧ ∃ n, wr = w.drewN n) (fun i _ => L.length - (intOf i).toNat)
    case atStart => exact ⟨0, Nat.zero_le _, rfl, 0, rfl⟩
    case round =>
      obtain ⟨k, hk, rfl, nr, rfl⟩ := hrel
      by_cases hlt : k < L.length
      · have a0 := Rd.cells (sz := 4) (f := matc) (fun _ => rfl) R1.out hlt (i := 0) rfl
        have a1 := Rd.cells (sz := 4) (f := matc) (fun _ => rfl) R1.out hlt (i := 1) rfl
        have a2 := Rd.cells (sz := 4) (f := matc) (fun _ => rfl) R1.out hlt (i := 2) rfl
        have a3 := Rd.cells (sz := 4) (f := matc) (fun _ => rfl) R1.out hlt (i := 3) rfl
        have b0 := Rd.cells (sz := 4) (f := matc) (fun _ => rfl) R2.out hlt (i := 0) rfl
        have b1 := Rd.cells (sz := 4) (f := matc) (fun _ => rfl) R2.out hlt (i := 1) rfl
        have b2 := Rd.cells (sz := 4) (f := matc) (fun _ => rfl) R2.out hlt (i := 2) rfl
        have b3 := Rd.cells (sz := 4) (f := matc) (fun _ => rfl) R2.out hlt (i := 3) rfl
        rw [← Nat.add_assoc] at a0 a1 a2 a3 b0 b1 b2 b3
        rw [Nat.add_zero] at a0 b0
        generalize ((L[k]).1.1 : Int) = x0 at a0 b0
        generalize ((L[k]).1.2.1 : Int) = x1 at a1 b1
        generalize ((L[k]).1.2.2 : Int) = x3 at a3 b3
        go_wp2
        go_quiet (fail)
        go_wp2
        go_roundw
        case rel => exact ⟨k + 1, by omega, by go_num, _, rfl⟩
        case measure => simp [intOf]; omega
      · have hke : k = L.length := by omega
        subst hke
        go_wp2
        go_ret
        exact ⟨rfl, nr, rfl⟩

theorem facc_flat (L : List Pl.Cos) : L.flatMap facc = (L.map (·.2)).map (Value.int .i64) := by
  induction L with
  | nil => rfl
  | cons x L ih => rw [List.flatMap_cons, ih]; rfl
theorem c_Ints_eq (v1 v2 : Value) (L : List Int) (w : World) (h1 : Rd w 1 v1 L.length (L.map (Value.int .i64))) (h2 : Rd w 1 v2 L.length (L.map (Value.int .i64))) (hl : L.length ≤ 1000000) :
    Calls Tryz.prog 26 #[v1, v2] w fun e w' => e = .returned (.bool true) ∧ ∃ n, w' = w.drewN n := by
  by_cases h0 : L.length = 0
  · have e1 : ∃ a c, v1 = .slice a 0 c := by
      rcases h1.2 with ⟨_, h⟩ | ⟨_, _, _, e, _⟩
      · exact h
      · exact ⟨_, _, by rw [e, h0]⟩
    have e2 : ∃ a c, v2 = .slice a 0 c := by
      rcases h2.2 with ⟨_, h⟩ | ⟨_, _, _, e, _⟩
      · exact h
      · exact ⟨_, _, by rw [e, h0]⟩
    obtain ⟨a1, c1, rfl⟩ := e1
    obtain ⟨a2, c2, rfl⟩ := e2
    clear h1 h2 h0
    go_enter Tryz.func26, Tryz.ntmps26
    go_wp2
    go_loop [5] (fun i => i = .int .i64 0) (fun _ => 0)
    case atStart => rfl
    case round =>
      obtain rfl := hrel
      go_wp2
      go_ret
      exact ⟨rfl, 0, rfl⟩
  · obtain ⟨g1, o1, c1, rfl, _, r1⟩ := h1.2.resolve_left (fun h => h0 h.1)
    obtain ⟨g2, o2, c2, rfl, _, r2⟩ := h2.2.resolve_left (fun h => h0 h.1)
    have R1 := Lib.hid r1
    have R2 := Lib.hid r2
    clear h1 h2 r1 r2 h0
    go_enter Tryz.func26, Tryz.ntmps26
    go_wp2
    go_loopw [5] (fun i wr => ∃ k : Nat, k ≤ L.length ∧ i = .int .i64 k ∧ ∃ n, wr = w.drewN n) (fun i _ => L.length - (intOf i).toNat)
    case atStart => exact ⟨0, Nat.zero_le _, rfl, 0, rfl⟩
    case round =>
      obtain ⟨k, hk, rfl, nr, rfl⟩ := hrel
      by_cases hlt : k < L.length
      · obtain ⟨x, hx⟩ : ∃ x, (L.map (Value.int .i64))[k]? = some (.int .i64 x) := ⟨L[k], by simp [List.getElem?_eq_getElem hlt]⟩
        have a0 := R1.out k _ hx
        have b0 := R2.out k _ hx
        clear hx
        go_wp2
        go_quiet (fail)
        go_wp2
        go_roundw
        case rel => exact ⟨k + 1, by omega, by go_num, _, rfl⟩
        case measure => simp [intOf]; omega
      · have hke : k = L.length := by omega
        subst hke
        go_wp2
        go_ret
        exact ⟨rfl, nr, rfl⟩

theorem awake_E : Pl.cosE 3 3 (-3) 2 = 0 := by decide +kernel
theorem awake_L : Pl.cosL (Pl.kroP (-3)) 3 3 (-3) 2 = [((1, 0, 2), 1), ((1, 1, 2), 1), ((2, 0, 1), -1)] := by decide +kernel
theorem rd_new (w : World) (E sz n : Nat) (cs : Array Value) (h : cs.size = n * sz) : Rd (w.alloc (.cells cs E)) sz (.slice (some ⟨w.heap.size, 0, none⟩) n n) n cs.toList :=
  ⟨by simpa using h, .inr ⟨w.heap.size, 0, n, rfl, by simp, fun j u hj => by rw [Nat.zero_add, (Blk.new w E cs).cell_ j]; simpa using hj⟩⟩
set_option maxRecDepth 100000 in
theorem c_awake46 (w : World) (hT : Tab w) :
    Calls Tryz.prog 11 #[] w fun e w' => e = .returned (.bool true) ∧ Below w.heap.size w w' := by
  have CC := c_Cosets 3 3 (-3) 2 w hT
  rw [awake_E, awake_L] at CC
  have HC := Lib.hid CC
  clear CC
  go_enter Tryz.func11, Tryz.ntmps11
  go_wp2_with fail
  refine HC.out.mono ?_
  rintro en w1 ⟨⟨v1, v2, rfl, htwo⟩, hb1⟩
  have hr1 := Rd.of_own htwo.mats
  have hr2 := Rd.of_own htwo.facs
  rw [facc_flat] at hr2
  have HR1 := Lib.hid hr1
  have HR2 := Lib.hid hr2
  have HB1 := Lib.hid hb1
  clear htwo hr1 hr2 hb1
  go_wp2_with fail
  refine (c_Same_eq v1 _ [((1, 0, 2), 1), ((1, 1, 2), 1), ((2, 0, 1), -1)] _ (HR1.out.keep ((Below.refl _ _).alloc (Nat.le_refl _) _)) (rd_new w1 _ 4 3 _ rfl) (by decide)).mono ?_
  rintro en w2 ⟨rfl, hq⟩
  have hb2 := quiet_below hq
  simp only [World.size_alloc] at hb2
  have W2 : Below w1.heap.size w1 w2 := ((Below.refl _ _).alloc (Nat.le_refl _) _).trans (hb2.mono (by omega))
  have HW2 := Lib.hid W2
  clear hq hb2 W2
  go_wp2_with fail
  refine (c_Ints_eq v2 _ [1, 1, -1] _ ((HR2.out.keep HW2.out).keep ((Below.refl _ _).alloc (Nat.le_refl _) _)) (rd_new w2 _ 1 3 _ rfl) (by decide)).mono ?_
  rintro en w3 ⟨rfl, hq⟩
  have hb3 := quiet_below hq
  simp only [World.size_alloc] at hb3
  have W3 : Below w2.heap.size w2 w3 := ((Below.refl _ _).alloc (Nat.le_refl _) _).trans (hb3.mono (by omega))
  have HW3 := Lib.hid W3
  clear hq hb3 W3
  go_wp2
  go_ret
  have s1 := HB1.out.size
  have s2 := HW2.out.size
  exact ⟨rfl, (HB1.out.trans (HW2.out.mono s1)).trans (HW3.out.mono (by omega))⟩
theorem cos_len (N k D n : Int) (chi : Nat → Int) : (Pl.cosL chi N k D n).length ≤ 1000000 := by
  unfold Pl.cosL
  split
  · rename_i h
    obtain ⟨_, h2, h3⟩ := Pl.cosE_ok h
    have h4 := Pl.cosAt_len chi N.toNat n.toNat n.toNat
    have h5 : n.toNat * n.toNat ≤ 128 * 128 := Nat.mul_le_mul (by omega) (by omega)
    omega
  · decide
end Go.Proofs.YthikonjlgljikaaGreatDoor
