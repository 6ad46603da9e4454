/- Contracts of halfplanebase: Z (small), Q. Contracts of halfplanebase: SameRat, SameRats (equal lists). Contracts of halfplanebase: Zeros, CopyInt, CopyRat, CopyRats. Rows of integers in memory. Contract of halfplanebase.Zs. -/
import Derived.Test.YthikonjlgljikaaDoorSf18
namespace Go.Proofs.YthikonjlgljikaaDoor
open Go.RowKit

/-- Before and behind the one round of Z's loop. -/
def ZAt (neg : Bool) (v : Nat) (S : Nat) (w : World) (u : Value) (wr : World) : Prop :=
  Blk wr S 50 #[.bool false, .slice none 0 0] ∧ Below S w wr ∧ S < wr.heap.size ∧
  ((u = .int .u64 (v : Nat) ∧ Blk wr (S + 1) 50 #[.bool neg, .slice none 0 0]) ∨
   (u = .int .u64 0 ∧ v ≠ 0 ∧ ∃ p c, Blk wr (S + 1) 50 #[.bool neg, .slice p 1 c] ∧ Dg wr p c 1 (fun _ => v)))
set_option maxHeartbeats 1000000 in
set_option maxRecDepth 100000 in
theorem c_Z (n : Int) (w : World) (h1 : -2147483648 ≤ n) (h2 : n ≤ 2147483648) :
    Calls Tryd.prog 41 #[.int .i64 n] w fun e w' => RetZ w' e n ∧ Below w.heap.size w w' := by
  obtain ⟨v, hv⟩ : ∃ v : Nat, n.natAbs = v := ⟨_, rfl⟩
  have hvl : v < 4294967296 := by omega
  have hvm : (v : Int) % 4294967296 = (v : Nat) := by omega
  have hvd : (v : Int) / 4294967296 = 0 := by omega
  have HV := Lib.hid (show sg (decide (n < 0)) v = n by rw [← hv]; exact sg_self n)
  have HVN := Lib.hid (show v = 0 → n = 0 by omega)
  have HVL := Lib.hid hvl
  clear hvl
  by_cases hneg : n < 0
  · have e1 : IntKind.u64.wrap n = n + 18446744073709551616 := by rw [IntKind.wrap_u64]; omega
    have e2 : IntKind.u64.wrap (-(n + 18446744073709551616)) = (v : Nat) := by rw [IntKind.wrap_u64]; omega
    have e3 : IntKind.u64.wrap (-n) = (v : Nat) := by rw [IntKind.wrap_u64]; omega
    have hd : decide (n < 0) = true := decide_eq_true hneg
    rw [hd] at HV
    have hvne : v ≠ 0 := by omega
    clear h1 h2 hv
    go_enter Tryd.func41, Tryd.ntmps41
    go_wp2
    obtain ⟨w0, hw0⟩ : ∃ w0, (w.alloc (.cells #[.bool false, .slice none 0 0] 50)).alloc (.cells #[.bool true, .slice none 0 0] 50) = w0 := ⟨_, rfl⟩
    rw [hw0]
    obtain ⟨X0, X1, hb0⟩ := box2 w #[.bool false, .slice none 0 0] 50 #[.bool true, .slice none 0 0] 50
    rw [hw0] at X0 X1 hb0
    have HZA := Lib.hid (show ZAt true v w.heap.size w (.int .u64 (v : Nat)) w0 from ⟨X0, hb0, X0.lt, .inl ⟨rfl, X1⟩⟩)
    clear hw0 X0 X1 hb0
    go_loopw [3] (fun u wr => ZAt true v w.heap.size w u wr) (fun u _ => (intOf u).toNat)
    case atStart => exact HZA.out
    case round =>
      obtain ⟨X0, hb0, hlt, ⟨rfl, X1⟩ | ⟨rfl, hv0, p, c, X1, hd⟩⟩ := hrel
      · clear HZA
        by_cases hv0 : v = 0
        · exact absurd hv0 hvne
        · have a0 := X1.at_ 0 rfl
          have a1 := X1.at_ 1 rfl
          have HX0 := Lib.hid X0
          have HX1 := Lib.hid X1
          have HB := Lib.hid hb0
          have hvp : (v : Int) > 0 := by omega
          clear X0 X1 hb0
          go_wp2_with (at_builtin; refine wpl_app1 rfl (.tmp 17) (.tmp 20) _ 116 rfl u32U u32Row rfl (by decide) wr.heap.size 0 (.slice none 0 0) [] [.int .u32 (v : Nat)] rfl (World.ownsRow_nil _ _ _ _) rfl rfl (one32 v) (by omega) (by omega) (Nat.le_refl _) ?_; intro v' w' hown' hgr hat; obtain ⟨p9, c9, rfl, hd9⟩ := Dg.of_own (n := 1) (a := fun _ => v) hown' (fun _ _ => HVL.out); have HX0 := Lib.hid (HX0.out.grown_ hgr (by simp [Value.ownBlock])); have HX1 := Lib.hid (HX1.out.grown_ hgr (by simp [Value.ownBlock])); have HB := Lib.hid (HB.out.grown hgr HB.out.size (by intro k hk; simp [Value.ownBlock] at hk)); have b0 : w'.cell? ⟨w.heap.size + 1, 0, none⟩ = some (.bool true) := HX1.out.at_ 0 rfl; have b1 : w'.cell? ⟨w.heap.size + 1, 1, none⟩ = some (.slice none 0 0) := HX1.out.at_ 1 rfl; have f1 : w'.frozen? ⟨w.heap.size + 1, 1, none⟩ = false := HX1.out.free_ 1; have HD9 := Lib.hid hd9; clear hown' hgr hat hd9)
          go_roundw
          case rel =>
            refine ⟨HX0.out.far_ (by simp) _, HB.out.setCell (by simp) _, Nat.lt_of_lt_of_le HX0.out.lt (by simp), .inr ⟨rfl, hv0, p9, c9, HX1.out.set_ 1 _, ?_⟩⟩
            exact HD9.out.put (Sts.box HX1.out) 1 _
          case measure => simp [intOf]; omega
      · have a0 := X1.at_ 0 rfl
        have a1 := X1.at_ 1 rfl
        have z0 := X0.at_ 0 rfl
        have z1 := X0.at_ 1 rfl
        have f0 := X0.free_ 0
        have f1 := X0.free_ 1
        have HB := Lib.hid hb0
        have hzn : Zs wr true p 1 c n := by
          have h1 := Dg.norm hd (.inr hv0)
          rw [show vf (fun _ => v) 1 = v from by simp [vf]] at h1
          have h2 := zs_of (s := true) (t := true) h1.2 h1.1 (by simp)
          rwa [HV.out] at h2
        have HZ := Lib.hid (hzn.put2 (Sts.box X0) 0 1 (.bool true) (.slice p 1 c) (NotInt.bool _))
        clear X0 X1 hb0 hlt hvm hvd HV HVN hd hzn HZA
        go_wp2
        refine bodyPost_ret (by simp [results, Tryd.results41, go_sem, z0, z1]; try rfl) rfl ?_
        exact ⟨⟨_, p, 1, c, rfl, HZ.out⟩, (HB.out.setCell (Nat.le_refl _) _).setCell (Nat.le_refl _) _⟩
  · have e1 : IntKind.u64.wrap n = (v : Nat) := by rw [IntKind.wrap_u64]; omega
    have hd : decide (n < 0) = false := decide_eq_false hneg
    rw [hd] at HV
    clear h1 h2 hv
    go_enter Tryd.func41, Tryd.ntmps41
    go_wp2
    obtain ⟨w0, hw0⟩ : ∃ w0, (w.alloc (.cells #[.bool false, .slice none 0 0] 50)).alloc (.cells #[.bool false, .slice none 0 0] 50) = w0 := ⟨_, rfl⟩
    rw [hw0]
    obtain ⟨X0, X1, hb0⟩ := box2 w #[.bool false, .slice none 0 0] 50 #[.bool false, .slice none 0 0] 50
    rw [hw0] at X0 X1 hb0
    have HZA := Lib.hid (show ZAt false v w.heap.size w (.int .u64 (v : Nat)) w0 from ⟨X0, hb0, X0.lt, .inl ⟨rfl, X1⟩⟩)
    clear hw0 X0 X1 hb0
    go_loopw [3] (fun u wr => ZAt false v w.heap.size w u wr) (fun u _ => (intOf u).toNat)
    case atStart => exact HZA.out
    case round =>
      obtain ⟨X0, hb0, hlt, ⟨rfl, X1⟩ | ⟨rfl, hv0, p, c, X1, hd⟩⟩ := hrel
      · clear HZA
        by_cases hv0 : v = 0
        · subst hv0
          obtain rfl : n = 0 := HVN.out rfl
          have a0 := X1.at_ 0 rfl
          have a1 := X1.at_ 1 rfl
          have z0 := X0.at_ 0 rfl
          have z1 := X0.at_ 1 rfl
          have f0 := X0.free_ 0
          have f1 := X0.free_ 1
          have HB := Lib.hid hb0
          clear X0 X1 hb0 hlt hvm hvd HV HVN
          go_wp2
          refine bodyPost_ret (by simp [results, Tryd.results41, go_sem, z0, z1]; try rfl) rfl ?_
          exact ⟨⟨_, none, 0, 0, rfl, rfl, rfl, Nm.nil _⟩, (HB.out.setCell (Nat.le_refl _) _).setCell (Nat.le_refl _) _⟩
        · have a0 := X1.at_ 0 rfl
          have a1 := X1.at_ 1 rfl
          have HX0 := Lib.hid X0
          have HX1 := Lib.hid X1
          have HB := Lib.hid hb0
          have hvp : (v : Int) > 0 := by omega
          clear X0 X1 hb0
          go_wp2_with (at_builtin; refine wpl_app1 rfl (.tmp 17) (.tmp 20) _ 116 rfl u32U u32Row rfl (by decide) wr.heap.size 0 (.slice none 0 0) [] [.int .u32 (v : Nat)] rfl (World.ownsRow_nil _ _ _ _) rfl rfl (one32 v) (by omega) (by omega) (Nat.le_refl _) ?_; intro v' w' hown' hgr hat; obtain ⟨p9, c9, rfl, hd9⟩ := Dg.of_own (n := 1) (a := fun _ => v) hown' (fun _ _ => HVL.out); have HX0 := Lib.hid (HX0.out.grown_ hgr (by simp [Value.ownBlock])); have HX1 := Lib.hid (HX1.out.grown_ hgr (by simp [Value.ownBlock])); have HB := Lib.hid (HB.out.grown hgr HB.out.size (by intro k hk; simp [Value.ownBlock] at hk)); have b0 : w'.cell? ⟨w.heap.size + 1, 0, none⟩ = some (.bool false) := HX1.out.at_ 0 rfl; have b1 : w'.cell? ⟨w.heap.size + 1, 1, none⟩ = some (.slice none 0 0) := HX1.out.at_ 1 rfl; have f1 : w'.frozen? ⟨w.heap.size + 1, 1, none⟩ = false := HX1.out.free_ 1; have HD9 := Lib.hid hd9; clear hown' hgr hat hd9)
          go_roundw
          case rel =>
            refine ⟨HX0.out.far_ (by simp) _, HB.out.setCell (by simp) _, Nat.lt_of_lt_of_le HX0.out.lt (by simp), .inr ⟨rfl, hv0, p9, c9, HX1.out.set_ 1 _, ?_⟩⟩
            exact HD9.out.put (Sts.box HX1.out) 1 _
          case measure => simp [intOf]; omega
      · have a0 := X1.at_ 0 rfl
        have a1 := X1.at_ 1 rfl
        have z0 := X0.at_ 0 rfl
        have z1 := X0.at_ 1 rfl
        have f0 := X0.free_ 0
        have f1 := X0.free_ 1
        have HB := Lib.hid hb0
        have hzn : Zs wr false p 1 c n := by
          have h1 := Dg.norm hd (.inr hv0)
          rw [show vf (fun _ => v) 1 = v from by simp [vf]] at h1
          have h2 := zs_of (s := false) (t := false) h1.2 h1.1 (by simp)
          rwa [HV.out] at h2
        have HZ := Lib.hid (hzn.put2 (Sts.box X0) 0 1 (.bool false) (.slice p 1 c) (NotInt.bool _))
        clear X0 X1 hb0 hlt hvm hvd HV HVN hd hzn HZA
        go_wp2
        refine bodyPost_ret (by simp [results, Tryd.results41, go_sem, z0, z1]; try rfl) rfl ?_
        exact ⟨⟨_, p, 1, c, rfl, HZ.out⟩, (HB.out.setCell (Nat.le_refl _) _).setCell (Nat.le_refl _) _⟩
set_option maxHeartbeats 1000000 in
set_option maxRecDepth 100000 in
theorem c_Q (n : Int) (w : World) (h1 : -2147483648 ≤ n) (h2 : n ≤ 2147483648) :
    Calls Tryd.prog 20 #[.int .i64 n] w fun e w' => RetQ w' e (n : Rat) ∧ Below w.heap.size w w' := by
  have HZ1 := Lib.hid (fun w1 => c_Z n w1 h1 h2)
  have HZ2 := Lib.hid (fun w1 => c_Z 1 w1 (by omega) (by omega))
  clear h1 h2
  go_enter Tryd.func20, Tryd.ntmps20
  go_wp2_with fail
  obtain ⟨w0, hw0⟩ : ∃ w0, (w.alloc (.cells #[.bool false, .slice none 0 0, .bool false, .slice none 0 0] 52)) = w0 := ⟨_, rfl⟩
  rw [hw0]
  obtain ⟨X0, hb0⟩ := box1 w #[.bool false, .slice none 0 0, .bool false, .slice none 0 0] 52
  rw [hw0] at X0 hb0
  have hs0 : w.heap.size ≤ w0.heap.size := hb0.size
  clear hw0
  refine (HZ1.out w0).mono ?_
  rintro e w1 ⟨⟨s2, p2, n2, e2, rfl, hz2⟩, hb1⟩
  have HA := Lib.hid hz2
  have HB1 := Lib.hid (hb0.trans (hb1.mono hs0))
  have HX0 := Lib.hid (X0.below_ hb1 X0.lt)
  clear hz2 hb0 hb1 X0 hs0 HZ1
  go_wp2_with fail
  refine (HZ2.out w1).mono ?_
  rintro e w4 ⟨⟨s3, p3, n3, e3, rfl, hz3⟩, hb4⟩
  have HQ := Lib.hid (show Qs w4 s2 p2 n2 e2 s3 p3 n3 e3 (n : Rat) by
    unfold Qs
    rw [Rat.num_intCast, Rat.den_intCast]
    exact ⟨HA.out.keep hb4, hz3⟩)
  have HR := Lib.hid (HX0.out.below_ hb4 HX0.out.lt)
  have HB := Lib.hid (HB1.out.trans (hb4.mono HB1.out.size))
  have HG := Lib.hid (rfl : (n : Rat) = (n : Rat))
  clear hz3 hb4 HZ2 HB1 HX0 HA
  have r0 := HR.out.at_ 0 rfl
  have r1 := HR.out.at_ 1 rfl
  have r2 := HR.out.at_ 2 rfl
  have r3 := HR.out.at_ 3 rfl
  have f0 := HR.out.free_ 0
  have f1 := HR.out.free_ 1
  have f2 := HR.out.free_ 2
  have f3 := HR.out.free_ 3
  obtain ⟨w9, hw9⟩ : ∃ w9, (((w4.setCell ⟨w.heap.size, 0, none⟩ (.bool s2)).setCell ⟨w.heap.size, 1, none⟩ (.slice p2 n2 e2)).setCell ⟨w.heap.size, 2, none⟩ (.bool s3)).setCell ⟨w.heap.size, 3, none⟩ (.slice p3 n3 e3) = w9 := ⟨_, rfl⟩
  obtain ⟨E0, E1, E2, E3, hq9⟩ := rat_put HR.out HQ.out hw9
  have hb9 : Below w.heap.size w w9 := by rw [← hw9]; exact below_putR HB.out (by omega) _ _ _ _
  have HW9 := Lib.hid hw9
  have HE9 := Lib.hid (And.intro E0 (And.intro E1 (And.intro E2 E3)))
  have HQ9 := Lib.hid hq9
  have HB9 := Lib.hid hb9
  clear E0 E1 E2 E3 hq9 hb9 hw9 HQ HB HR
  go_wp2
  try rw [HW9.out]
  obtain ⟨E0, E1, E2, E3⟩ := HE9.out
  try simp only [Exit.inBlock, Exit.then]
  refine bodyPost_ret (by simp [results, Tryd.results20, go_sem, E0, E1, E2, E3]; try rfl) rfl ?_
  exact ⟨⟨s2, p2, n2, e2, s3, p3, n3, e3, rfl, HQ9.out⟩, HB9.out⟩
end Go.Proofs.YthikonjlgljikaaDoor
namespace Go.Proofs.YthikonjlgljikaaDoor
open Go.RowKit

set_option maxHeartbeats 1000000 in
set_option maxRecDepth 100000 in
theorem c_SameRat (s : Bool) (p : Option Addr) (n c : Nat) (t : Bool) (q : Option Addr) (m d : Nat) (x : Rat) (s' : Bool) (p' : Option Addr) (n' c' : Nat) (t' : Bool) (q' : Option Addr) (m' d' : Nat) (y : Rat) (w : World) (h : Qs w s p n c t q m d x) (h' : Qs w s' p' n' c' t' q' m' d' y) (hx : hq x ≤ 35184372088830) :
    Calls Tryd.prog 19 #[.agg #[.bool s, .slice p n c, .bool t, .slice q m d], .agg #[.bool s', .slice p' n' c', .bool t', .slice q' m' d']] w fun e w' => e = .returned (.bool (decide (x = y))) ∧ Below w.heap.size w w' := by
  obtain ⟨r, hr⟩ : ∃ r, decide (x = y) = r := ⟨_, rfl⟩
  rw [hr]
  have HR := Lib.hid hr
  have HS := Lib.hid h.sizes
  have H1 := Lib.hid (fun w1 (hb : Below w.heap.size w w1) => c_SameInt s p n c x.num s' p' n' c' y.num w1 (h.1.keep hb) (h'.1.keep hb) (by have := h.sizes; omega))
  have H2 := Lib.hid (fun w1 (hb : Below w.heap.size w w1) => c_SameInt t q m d x.den t' q' m' d' y.den w1 (h.2.keep hb) (h'.2.keep hb) (by have := h.sizes; omega))
  clear h h' hx hr
  go_enter Tryd.func19, Tryd.ntmps19
  go_wp2_with fail
  obtain ⟨w0, hw0⟩ : ∃ w0, ((w.alloc (.cells #[.bool s, .slice p n c, .bool t, .slice q m d] 52)).alloc (.cells #[.bool s', .slice p' n' c', .bool t', .slice q' m' d'] 52)) = w0 := ⟨_, rfl⟩
  rw [hw0]
  obtain ⟨X0, X1, hb0⟩ := box2 w #[.bool s, .slice p n c, .bool t, .slice q m d] 52 #[.bool s', .slice p' n' c', .bool t', .slice q' m' d'] 52
  rw [hw0] at X0 X1 hb0
  have hs0 : w.heap.size ≤ w0.heap.size := hb0.size
  clear hw0
  have a0 := X0.at_ 0 rfl
  have a1 := X0.at_ 1 rfl
  have b0 := X1.at_ 0 rfl
  have b1 := X1.at_ 1 rfl
  have HX0 := Lib.hid X0
  have HX1 := Lib.hid X1
  have HB := Lib.hid hb0
  clear X0 X1 hb0 hs0
  refine (H1.out w0 HB.out).mono ?_
  rintro e w1 ⟨rfl, hb1⟩
  have HB1 := Lib.hid (HB.out.trans (hb1.mono HB.out.size))
  replace HX0 := Lib.hid (HX0.out.below_ hb1 HX0.out.lt)
  replace HX1 := Lib.hid (HX1.out.below_ hb1 HX1.out.lt)
  have a2 := HX0.out.at_ 2 rfl
  have a3 := HX0.out.at_ 3 rfl
  have b2 := HX1.out.at_ 2 rfl
  have b3 := HX1.out.at_ 3 rfl
  clear hb1 a0 a1 b0 b1 HB H1
  by_cases h1 : x.num = y.num
  · rw [decide_eq_true h1]
    go_wp2_with fail
    refine (H2.out w1 HB1.out).mono ?_
    rintro e w2 ⟨rfl, hb2⟩
    have HB2 := Lib.hid (HB1.out.trans (hb2.mono HB1.out.size))
    obtain ⟨z, hz⟩ : ∃ z, decide ((x.den : Int) = y.den) = z := ⟨_, rfl⟩
    have HE := Lib.hid (show z = r by
      rw [← HR.out, ← hz, decide_eq_decide]
      exact ⟨fun h => Rat.ext h1 (by omega), fun h => by rw [h]⟩)
    rw [hz]
    clear hb2 H2 HB1 hz h1 HR
    go_wp2
    go_ret
    exact ⟨ret_b HE.out, HB2.out⟩
  · rw [decide_eq_false h1]
    have HE := Lib.hid (show false = r by
      rw [← HR.out]
      exact (decide_eq_false fun h => h1 (by rw [h])).symm)
    clear H2 h1 HR
    go_wp2
    go_ret
    exact ⟨ret_b HE.out, HB1.out⟩
set_option maxHeartbeats 1000000 in
set_option maxRecDepth 100000 in
theorem c_SameRats_eq (v1 v2 : Value) (n : Nat) (f : Nat → Rat) (w : World) (h1 : QL (fun j => IsQ (f j)) w v1 n) (h2 : QL (fun j => IsQ (f j)) w v2 n) (hn : n ≤ 1000000) (hf : ∀ j, j < n → hq (f j) ≤ 35184372088830) :
    Calls Tryd.prog 31 #[v1, v2] w fun e w' => e = .returned (.bool true) ∧ Below w.heap.size w w' := by
  rcases Nat.eq_zero_or_pos n with rfl | hpos
  · have e1 : ∃ a c, v1 = .slice a 0 c := by
      rcases h1 with ⟨_, h⟩ | ⟨_, _, _, e, _⟩
      · exact h
      · exact ⟨_, _, e⟩
    have e2 : ∃ a c, v2 = .slice a 0 c := by
      rcases h2 with ⟨_, h⟩ | ⟨_, _, _, e, _⟩
      · exact h
      · exact ⟨_, _, e⟩
    obtain ⟨a1, c1, rfl⟩ := e1
    obtain ⟨a2, c2, rfl⟩ := e2
    clear h1 h2 hf hn
    go_enter Tryd.func31, Tryd.ntmps31
    go_wp2
    go_loopw [5] (fun i wr => i = .int .i64 0 ∧ wr = w) (fun _ _ => 0)
    case atStart => exact ⟨rfl, rfl⟩
    case round =>
      obtain ⟨rfl, rfl⟩ := hrel
      go_wp2
      go_ret
      exact ⟨rfl, Below.refl _ _⟩
  · obtain ⟨g1, o1, l1, rfl, hg1, r1⟩ := h1.resolve_left (fun h => by omega)
    obtain ⟨g2, o2, l2, rfl, hg2, r2⟩ := h2.resolve_left (fun h => by omega)
    have R1 := Lib.hid r1
    have R2 := Lib.hid r2
    have HF := Lib.hid hf
    clear h1 h2 r1 r2 hf
    go_enter Tryd.func31, Tryd.ntmps31
    go_wp2
    go_loopw [5] (fun i wr => ∃ k : Nat, k ≤ n ∧ i = .int .i64 k ∧ Below w.heap.size w wr) (fun i _ => n - (intOf i).toNat)
    case atStart => exact ⟨0, Nat.zero_le _, rfl, Below.refl _ _⟩
    case round =>
      obtain ⟨k, hk, rfl, hb⟩ := hrel
      by_cases hlt : k < n
      · have HB := Lib.hid hb
        obtain ⟨s, p, i1, c, t, q, m, d, a0, a1, a2, a3, hx⟩ := (R1.out k hlt).keep (IsQ.solid _) hb
        obtain ⟨s', p', i1', c', t', q', m', d', b0, b1, b2, b3, hy⟩ := (R2.out k hlt).keep (IsQ.solid _) hb
        have HC := Lib.hid (fun w1 (h : Below wr.heap.size wr w1) => c_SameRat s p i1 c t q m d (f k) s' p' i1' c' t' q' m' d' (f k) w1 (Qs.keep hx h) (Qs.keep hy h) (HF.out k hlt))
        simp only [decide_true] at HC
        clear hx hy hb
        go_upto_region 6 with (fail)
        have hS1 : wr.cell? ⟨g1, o1 + k * 4, none⟩ = some (.bool s) ∧ wr.cell? ⟨g1, o1 + k * 4 + 1, none⟩ = some (.slice p i1 c) ∧ wr.cell? ⟨g1, o1 + k * 4 + 2, none⟩ = some (.bool t) ∧ wr.cell? ⟨g1, o1 + k * 4 + 3, none⟩ = some (.slice q m d) ∧ wr.cell? ⟨g2, o2 + k * 4, none⟩ = some (.bool s') ∧ wr.cell? ⟨g2, o2 + k * 4 + 1, none⟩ = some (.slice p' i1' c') ∧ wr.cell? ⟨g2, o2 + k * 4 + 2, none⟩ = some (.bool t') ∧ wr.cell? ⟨g2, o2 + k * 4 + 3, none⟩ = some (.slice q' m' d') ∧ Below wr.heap.size wr wr ∧ wr.heap.size ≤ wr.heap.size := ⟨a0, a1, a2, a3, b0, b1, b2, b3, Below.refl _ _, Below.size (show Below wr.heap.size wr wr from Below.refl _ _)⟩
        have hS0 : wr.drew.cell? ⟨g1, o1 + k * 4, none⟩ = some (.bool s) ∧ wr.drew.cell? ⟨g1, o1 + k * 4 + 1, none⟩ = some (.slice p i1 c) ∧ wr.drew.cell? ⟨g1, o1 + k * 4 + 2, none⟩ = some (.bool t) ∧ wr.drew.cell? ⟨g1, o1 + k * 4 + 3, none⟩ = some (.slice q m d) ∧ wr.drew.cell? ⟨g2, o2 + k * 4, none⟩ = some (.bool s') ∧ wr.drew.cell? ⟨g2, o2 + k * 4 + 1, none⟩ = some (.slice p' i1' c') ∧ wr.drew.cell? ⟨g2, o2 + k * 4 + 2, none⟩ = some (.bool t') ∧ wr.drew.cell? ⟨g2, o2 + k * 4 + 3, none⟩ = some (.slice q' m' d') ∧ Below wr.heap.size wr wr.drew ∧ wr.heap.size ≤ wr.drew.heap.size := S8_0_next (Below.refl _ wr).drew hS1
        clear a0 a1 a2 a3 b0 b1 b2 b3 hS1
        have M1 : True := trivial
        go_region_held3 (fun w1 => w1.cell? ⟨g1, o1 + k * 4, none⟩ = some (.bool s) ∧ w1.cell? ⟨g1, o1 + k * 4 + 1, none⟩ = some (.slice p i1 c) ∧ w1.cell? ⟨g1, o1 + k * 4 + 2, none⟩ = some (.bool t) ∧ w1.cell? ⟨g1, o1 + k * 4 + 3, none⟩ = some (.slice q m d) ∧ w1.cell? ⟨g2, o2 + k * 4, none⟩ = some (.bool s') ∧ w1.cell? ⟨g2, o2 + k * 4 + 1, none⟩ = some (.slice p' i1' c') ∧ w1.cell? ⟨g2, o2 + k * 4 + 2, none⟩ = some (.bool t') ∧ w1.cell? ⟨g2, o2 + k * 4 + 3, none⟩ = some (.slice q' m' d') ∧ Below wr.heap.size wr w1 ∧ wr.heap.size ≤ w1.heap.size)
          (first | with_reducible exact hS0 | (refine S8_0_next (by with_reducible assumption) ?_; assumption))
          (first
            | (go_at_call 19; refine (HC.out _ (S8_0_below (by with_reducible assumption))).mono ?_; rintro e w2 ⟨rfl, hb2⟩; have HB2 := Lib.hid (Below.trans HB.out (Below.mono (Below.trans (S8_0_below (by with_reducible assumption)) (Below.mono hb2 (Below.size (S8_0_below (by with_reducible assumption))))) HB.out.size))))
        go_wp2
        go_roundw
        case rel => exact ⟨k + 1, by omega, by go_num, HB2.out⟩
        case measure => simp [intOf]; omega
      · obtain rfl : k = n := by omega
        have HB := Lib.hid hb
        clear hb
        go_wp2
        go_ret
        exact ⟨rfl, HB.out⟩
end Go.Proofs.YthikonjlgljikaaDoor
namespace Go.Proofs.YthikonjlgljikaaDoor
open Go.RowKit

theorem ratInfo : (Tryd.prog.info? 52).map (fun i => (i.zero, i.size, i.bytes)) = some (some (.agg #[.bool false, .slice none 0 0, .bool false, .slice none 0 0]), 4, 64) := by kernel_rfl
theorem one4 (s t : Bool) (p q : Option Addr) (n c m d : Nat) : ∀ u ∈ [Value.bool s, .slice p n c, .bool t, .slice q m d], u.oneCell' = true := by
  intro u hu
  simp at hu
  rcases hu with rfl | rfl | rfl | rfl <;> rfl
theorem ni4 (s t : Bool) (p q : Option Addr) (n c m d : Nat) : ∀ u ∈ [Value.bool s, .slice p n c, .bool t, .slice q m d], NotInt u := by
  intro u hu
  simp at hu
  rcases hu with rfl | rfl | rfl | rfl <;> first | exact NotInt.bool _ | exact NotInt.slice _ _ _
theorem niz : ∀ u ∈ (Value.agg #[.bool false, .slice none 0 0, .bool false, .slice none 0 0]).cells.toList, NotInt u := by
  intro u hu
  simp [Value.cells] at hu
  rcases hu with rfl | rfl | rfl | rfl <;> first | exact NotInt.bool _ | exact NotInt.slice _ _ _
end Go.Proofs.YthikonjlgljikaaDoor
namespace Go.Proofs.YthikonjlgljikaaDoor
open Go.RowKit

/-- An element in memory. -/
def ZE (z : Int) (w : World) (g i : Nat) : Prop := ∃ s p n c, w.cell? ⟨g, i, none⟩ = some (.bool s) ∧ w.cell? ⟨g, i + 1, none⟩ = some (.slice p n c) ∧ Zs w s p n c z
theorem ZE.keep {z : Int} {w w' : World} {g i : Nat} (h : ZE z w g i) (hb : Below w.heap.size w w') : ZE z w' g i := by
  obtain ⟨s, p, n, c, h0, h1, h4⟩ := h
  have hk : ∀ j v, w.cell? ⟨g, j, none⟩ = some v → w'.cell? ⟨g, j, none⟩ = some v := fun j v e => (hb.cell (p := ⟨g, j, none⟩) (World.block_lt_of_cell? w ⟨g, j, none⟩ e)).trans e
  exact ⟨s, p, n, c, hk _ _ h0, hk _ _ h1, h4.i32 (I32.below hb)⟩
/-- A slice of integers that is read. -/
def ZL (f : Nat → Int) (w : World) (v : Value) (n : Nat) : Prop := (n = 0 ∧ ∃ a c, v = .slice a 0 c) ∨ ∃ g o cap, v = .slice (some ⟨g, o, none⟩) n cap ∧ g < w.heap.size ∧ ∀ j, j < n → ZE (f j) w g (o + j * 2)
theorem ZL.keep {f : Nat → Int} {w w' : World} {v : Value} {n : Nat} (h : ZL f w v n) (hb : Below w.heap.size w w') : ZL f w' v n := by
  rcases h with h | ⟨g, o, cap, e, hg, hc⟩
  · exact .inl h
  · exact .inr ⟨g, o, cap, e, Nat.lt_of_lt_of_le hg hb.size, fun j hj => (hc j hj).keep hb⟩
/-- A row of N integers that may be written; the first k are as f says. -/
structure ZRow (f : Nat → Int) (w : World) (g N k : Nat) : Prop where
  sts : Sts w g
  free : ∀ i, i < N * 2 → w.frozen? ⟨g, i, none⟩ = false
  has : ∀ i, i < N * 2 → (w.cell? ⟨g, i, none⟩).isSome = true
  val : ∀ j, j < k → ZE (f j) w g (j * 2)
theorem ZRow.keep {f : Nat → Int} {w w' : World} {g N k : Nat} (h : ZRow f w g N k) (hb : Below w.heap.size w w') : ZRow f w' g N k :=
  ⟨h.sts.next hb, fun i hi => frozen_keep hb (h.has i hi) (h.free i hi), fun i hi => by rw [hb.cell (p := ⟨g, i, none⟩) h.sts.1]; exact h.has i hi, fun j hj => (h.val j hj).keep hb⟩
theorem ZRow.congr {f f' : Nat → Int} {w : World} {g N k : Nat} (h : ZRow f w g N k) (e : ∀ j, j < k → f j = f' j) : ZRow f' w g N k := ⟨h.sts, h.free, h.has, fun j hj => by rw [← e j hj]; exact h.val j hj⟩
/-- Element j is written. -/
theorem ZRow.set {f : Nat → Int} {w : World} {g N k k' : Nat} (h : ZRow f w g N k) (j : Nat) (hj : j < N) (f' : Nat → Int) (hk : ∀ i, i < k' → i ≠ j → i < k ∧ f i = f' i)
    {s : Bool} {p : Option Addr} {n c : Nat} (hq : Zs w s p n c (f' j)) :
    ZRow f' ((w.setCell ⟨g, j * 2, none⟩ (.bool s)).setCell ⟨g, j * 2 + 1, none⟩ (.slice p n c)) g N k' := by
  have h32 := I32.put2 h.sts (j * 2) (j * 2 + 1) (.bool s) (.slice p n c) (NotInt.bool _)
  have s1 := h.sts.put ⟨g, j * 2, none⟩ (.bool s) (NotInt.bool _)
  have s2 := s1.put ⟨g, j * 2 + 1, none⟩ (.slice p n c) (NotInt.slice _ _ _)
  refine ⟨s2, fun i hi => frozen_set (frozen_set (h.free i hi)), fun i hi => some_put (some_put (h.has i hi)), fun i hi => ?_⟩
  by_cases hij : i = j
  · subst hij
    have c0 := h.has (i * 2) (by omega)
    have c1 := some_put (R := g) (i := i * 2) (u := .bool s) (h.has (i * 2 + 1) (by omega))
    refine ⟨s, p, n, c, ?_, ?_, hq.i32 h32⟩
    · rw [World.cell?_setCell_other _ _ _ _ (by simp), World.cell?_setCell_same' _ _ _ c0]
    · rw [World.cell?_setCell_same' _ _ _ c1]
  · obtain ⟨hik, e⟩ := hk i hi hij
    obtain ⟨s', p', n', c', e0, e1, e4⟩ := h.val i hik
    rw [← e]
    have far : ∀ (x : Nat) (v : Value), i * 2 ≤ x → x < i * 2 + 2 → w.cell? ⟨g, x, none⟩ = some v → ((w.setCell ⟨g, j * 2, none⟩ (.bool s)).setCell ⟨g, j * 2 + 1, none⟩ (.slice p n c)).cell? ⟨g, x, none⟩ = some v := by
      intro x v hx1 hx2 hv
      rw [World.cell?_setCell_other _ _ _ _ (by simp <;> omega), World.cell?_setCell_other _ _ _ _ (by simp <;> omega)]
      exact hv
    exact ⟨s', p', n', c', far _ _ (by omega) (by omega) e0, far _ _ (by omega) (by omega) e1, e4.i32 h32⟩
/-- The cells of element j of a list of cells. -/
def ZX (z : Int) (w : World) (xs : List Value) (i : Nat) : Prop := ∃ s p n c, xs[i]? = some (.bool s) ∧ xs[i + 1]? = some (.slice p n c) ∧ Zs w s p n c z
/-- A row of integers of one's own, in append's hands. -/
def OwnZ (f : Nat → Int) (w : World) (B : Nat) (v : Value) (n : Nat) : Prop := ∃ xs, OwnK NotInt w B 50 2 v n xs ∧ ∀ j, j < n → ZX (f j) w xs (j * 2)
theorem OwnZ.nil (f : Nat → Int) (w : World) (B : Nat) : OwnZ f w B (.slice none 0 0) 0 := ⟨[], OwnK.nil _ _ _ _ _, fun _ hj => absurd hj (Nat.not_lt_zero _)⟩
theorem ZX.i32 {z : Int} {w w' : World} (h : I32 w w') {xs : List Value} {i : Nat} (hx : ZX z w xs i) : ZX z w' xs i := by
  obtain ⟨s, p, n, c, h0, h1, h4⟩ := hx
  exact ⟨s, p, n, c, h0, h1, h4.i32 h⟩
theorem OwnZ.keep {f : Nat → Int} {w w' : World} {B n : Nat} {v : Value} (h : OwnZ f w B v n) (hb : Below w.heap.size w w') : OwnZ f w' B v n := by
  obtain ⟨xs, h1, h2⟩ := h
  exact ⟨xs, h1.keep hb, fun j hj => (h2 j hj).i32 (I32.below hb)⟩
theorem ZX.app {z : Int} {w : World} {xs ys : List Value} {i : Nat} (h : ZX z w xs i) : ZX z w (xs ++ ys) i := by
  obtain ⟨s, p, n, c, h0, h1, h4⟩ := h
  have hk : ∀ (j : Nat) (v : Value), xs[j]? = some v → (xs ++ ys)[j]? = some v := by
    intro j v e
    rw [List.getElem?_append_left]
    · exact e
    · rcases Nat.lt_or_ge j xs.length with hlt | hge
      · exact hlt
      · rw [List.getElem?_eq_none hge] at e; cases e
  exact ⟨s, p, n, c, hk _ _ h0, hk _ _ h1, h4⟩
theorem OwnZ.push {f : Nat → Int} {W w' : World} {B n : Nat} {v v' : Value} {xs : List Value} (h1 : OwnK NotInt W B 50 2 v n xs) (h2 : ∀ j, j < n → ZX (f j) W xs (j * 2))
    {s : Bool} {p : Option Addr} {k c : Nat} (hq : Zs W s p k c (f n)) (h3 : OwnK NotInt w' B 50 2 v' (n + 1) (xs ++ [.bool s, .slice p k c])) (hg : W.grownBy w' v.ownBlock) : OwnZ f w' B v' (n + 1) := by
  have h32 := I32.grown (K := NotInt) (fun x => not_int32 x) h1.2 hg
  refine ⟨_, h3, fun j hj => ?_⟩
  by_cases hjn : j < n
  · exact ((h2 j hjn).i32 h32).app
  · obtain rfl : j = n := by omega
    have hl : xs.length = j * 2 := h1.1.1
    refine ⟨s, p, k, c, ?_, ?_, hq.i32 h32⟩
    · rw [List.getElem?_append_right (by omega), hl, show j * 2 - j * 2 = 0 by omega]; rfl
    · rw [List.getElem?_append_right (by omega), hl, show j * 2 + 1 - j * 2 = 1 by omega]; rfl
/-- The row that append has made. -/
theorem OwnZ.row {f : Nat → Int} {w : World} {B n : Nat} {v : Value} (h : OwnZ f w B v n) : (n = 0 ∧ v = .slice none 0 0) ∨ ∃ g cap, v = .slice (some ⟨g, 0, none⟩) n cap ∧ B ≤ g ∧ ZRow f w g n n := by
  obtain ⟨xs, h1, h2⟩ := h
  rcases own_shape h1.1 with ⟨rfl, rfl, _⟩ | ⟨g, cap, rfl, hB, hg, hc⟩
  · exact .inl ⟨rfl, rfl⟩
  · right
    have hl : xs.length = n * 2 := h1.1.1
    have hs := h1.2 g rfl
    refine ⟨g, cap, rfl, hB, ⟨hs, ?_, ?_, ?_⟩⟩
    · intro i hi
      rcases own_block h1.1 with h3 | ⟨g', cs, h3, _, h4⟩
      · simp [Value.ownBlock] at h3
      · simp [Value.ownBlock] at h3
        subst h3
        exact h4.free_ i
    · intro i hi
      rw [own_read h1.1 (List.getElem?_eq_getElem (by omega : i < xs.length))]; rfl
    · intro j hj
      obtain ⟨s, p, n', c, e0, e1, e4⟩ := h2 j hj
      exact ⟨s, p, n', c, own_read h1.1 e0, own_read h1.1 e1, e4⟩
end Go.Proofs.YthikonjlgljikaaDoor
namespace Go.Proofs.YthikonjlgljikaaDoor
open Go.RowKit

theorem aIntInfo : (Tryd.prog.info? 50).map (fun i => (i.zero, i.size, i.bytes)) = some (some (.agg #[.bool false, .slice none 0 0]), 2, 32) := by kernel_rfl
theorem niz2 : ∀ u ∈ (Value.agg #[.bool false, .slice none 0 0]).cells.toList, NotInt u := by
  intro u hu
  simp [Value.cells] at hu
  rcases hu with rfl | rfl <;> first | exact NotInt.bool _ | exact NotInt.slice _ _ _
end Go.Proofs.YthikonjlgljikaaDoor
