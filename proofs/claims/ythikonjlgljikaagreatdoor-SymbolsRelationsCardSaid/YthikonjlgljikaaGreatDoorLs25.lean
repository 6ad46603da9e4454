/- Contracts of halfplanebase: Z (small), Q. Contracts of halfplanebase: SameRat, SameRats (equal lists). Contracts of halfplanebase: Zeros, CopyInt, CopyRat, CopyRats. -/
import Derived.Test.YthikonjlgljikaaGreatDoorLs23
import Derived.Test.YthikonjlgljikaaGreatDoorLs24
namespace Go.Proofs.YthikonjlgljikaaGreatDoor
open Go.RowKit

/-- Before and behind the one round of Z's loop. -/
def ZAt (neg : Bool) (v : Nat) (S : Nat) (w : World) (u : Value) (wr : World) : Prop :=
  Blk wr S 33 #[.bool false, .slice none 0 0] ∧ Below S w wr ∧ S < wr.heap.size ∧
  ((u = .int .u64 (v : Nat) ∧ Blk wr (S + 1) 33 #[.bool neg, .slice none 0 0]) ∨
   (u = .int .u64 0 ∧ v ≠ 0 ∧ ∃ p c, Blk wr (S + 1) 33 #[.bool neg, .slice p 1 c] ∧ Dg wr p c 1 (fun _ => v)))
set_option maxHeartbeats 1000000 in
set_option maxRecDepth 100000 in
theorem c_Z (n : Int) (w : World) (h1 : -2147483648 ≤ n) (h2 : n ≤ 2147483648) :
    Calls Tryz.prog 74 #[.int .i64 n] w fun e w' => RetZ w' e n ∧ Below w.heap.size w w' := by
  obtain ⟨v, hv⟩ : ∃ v : Nat, n.natAbs = v := ⟨_, rfl⟩
  have hvl : v < 4294967296 := by omega
  have hvm : (v : Int) % 4294967296 = (v : Nat) := by omega
  have hvd : (v : Int) / 4294967296 = 0 := by omega
  have HV := Lib.hid (show sg (decide (n < 0)) v = n by rw [← hv]; exact sg_self n)
  have HVN := Lib.hid (show v = 0 → n = 0 by omega)
  have HVL := Lib.hid hvl
  clear hvl
  by_cases hneg : n < 0
  · have e1 : IntKind.u64.wrap n = n + 18446744073709551616 := by rw [IntKind.wrap_u64]; omega
    have e2 : IntKind.u64.wrap (-(n + 18446744073709551616)) = (v : Nat) := by rw [IntKind.wrap_u64]; omega
    have e3 : IntKind.u64.wrap (-n) = (v : Nat) := by rw [IntKind.wrap_u64]; omega
    have hd : decide (n < 0) = true := decide_eq_true hneg
    rw [hd] at HV
    have hvne : v ≠ 0 := by omega
    clear h1 h2 hv
    go_enter Tryz.func74, Tryz.ntmps74
    go_wp2
    obtain ⟨w0, hw0⟩ : ∃ w0, (w.alloc (.cells #[.bool false, .slice none 0 0] 33)).alloc (.cells #[.bool true, .slice none 0 0] 33) = w0 := ⟨_, rfl⟩
    rw [hw0]
    obtain ⟨X0, X1, hb0⟩ := box2 w #[.bool false, .slice none 0 0] 33 #[.bool true, .slice none 0 0] 33
    rw [hw0] at X0 X1 hb0
    have HZA := Lib.hid (show ZAt true v w.heap.size w (.int .u64 (v : Nat)) w0 from ⟨X0, hb0, X0.lt, .inl ⟨rfl, X1⟩⟩)
    clear hw0 X0 X1 hb0
    go_loopw [3] (fun u wr => ZAt true v w.heap.size w u wr) (fun u _ => (intOf u).toNat)
    case atStart => exact HZA.out
    case round =>
      obtain ⟨X0, hb0, hlt, ⟨rfl, X1⟩ | ⟨rfl, hv0, p, c, X1, hd⟩⟩ := hrel
      · clear HZA
        by_cases hv0 : v = 0
        · exact absurd hv0 hvne
        · have a0 := X1.at_ 0 rfl
          have a1 := X1.at_ 1 rfl
          have HX0 := Lib.hid X0
          have HX1 := Lib.hid X1
          have HB := Lib.hid hb0
          have hvp : (v : Int) > 0 := by omega
          clear X0 X1 hb0
          go_wp2_with (at_builtin; refine wpl_app1 rfl (.tmp 17) (.tmp 20) _ 187 rfl u32U u32Row rfl (by decide) wr.heap.size 0 (.slice none 0 0) [] [.int .u32 (v : Nat)] rfl (World.ownsRow_nil _ _ _ _) rfl rfl (one32 v) (by omega) (by omega) (Nat.le_refl _) ?_; intro v' w' hown' hgr hat; obtain ⟨p9, c9, rfl, hd9⟩ := Dg.of_own (n := 1) (a := fun _ => v) hown' (fun _ _ => HVL.out); have HX0 := Lib.hid (HX0.out.grown_ hgr (by simp [Value.ownBlock])); have HX1 := Lib.hid (HX1.out.grown_ hgr (by simp [Value.ownBlock])); have HB := Lib.hid (HB.out.grown hgr HB.out.size (by intro k hk; simp [Value.ownBlock] at hk)); have b0 : w'.cell? ⟨w.heap.size + 1, 0, none⟩ = some (.bool true) := HX1.out.at_ 0 rfl; have b1 : w'.cell? ⟨w.heap.size + 1, 1, none⟩ = some (.slice none 0 0) := HX1.out.at_ 1 rfl; have f1 : w'.frozen? ⟨w.heap.size + 1, 1, none⟩ = false := HX1.out.free_ 1; have HD9 := Lib.hid hd9; clear hown' hgr hat hd9)
          go_roundw
          case rel =>
            refine ⟨HX0.out.far_ (by simp) _, HB.out.setCell (by simp) _, Nat.lt_of_lt_of_le HX0.out.lt (by simp), .inr ⟨rfl, hv0, p9, c9, HX1.out.set_ 1 _, ?_⟩⟩
            exact HD9.out.put (Sts.box HX1.out) 1 _
          case measure => simp [intOf]; omega
      · have a0 := X1.at_ 0 rfl
        have a1 := X1.at_ 1 rfl
        have z0 := X0.at_ 0 rfl
        have z1 := X0.at_ 1 rfl
        have f0 := X0.free_ 0
        have f1 := X0.free_ 1
        have HB := Lib.hid hb0
        have hzn : Zs wr true p 1 c n := by
          have h1 := Dg.norm hd (.inr hv0)
          rw [show vf (fun _ => v) 1 = v from by simp [vf]] at h1
          have h2 := zs_of (s := true) (t := true) h1.2 h1.1 (by simp)
          rwa [HV.out] at h2
        have HZ := Lib.hid (hzn.put2 (Sts.box X0) 0 1 (.bool true) (.slice p 1 c) (NotInt.bool _))
        clear X0 X1 hb0 hlt hvm hvd HV HVN hd hzn HZA
        go_wp2
        refine bodyPost_ret (by simp [results, Tryz.results74, go_sem, z0, z1]; try rfl) rfl ?_
        exact ⟨⟨_, p, 1, c, rfl, HZ.out⟩, (HB.out.setCell (Nat.le_refl _) _).setCell (Nat.le_refl _) _⟩
  · have e1 : IntKind.u64.wrap n = (v : Nat) := by rw [IntKind.wrap_u64]; omega
    have hd : decide (n < 0) = false := decide_eq_false hneg
    rw [hd] at HV
    clear h1 h2 hv
    go_enter Tryz.func74, Tryz.ntmps74
    go_wp2
    obtain ⟨w0, hw0⟩ : ∃ w0, (w.alloc (.cells #[.bool false, .slice none 0 0] 33)).alloc (.cells #[.bool false, .slice none 0 0] 33) = w0 := ⟨_, rfl⟩
    rw [hw0]
    obtain ⟨X0, X1, hb0⟩ := box2 w #[.bool false, .slice none 0 0] 33 #[.bool false, .slice none 0 0] 33
    rw [hw0] at X0 X1 hb0
    have HZA := Lib.hid (show ZAt false v w.heap.size w (.int .u64 (v : Nat)) w0 from ⟨X0, hb0, X0.lt, .inl ⟨rfl, X1⟩⟩)
    clear hw0 X0 X1 hb0
    go_loopw [3] (fun u wr => ZAt false v w.heap.size w u wr) (fun u _ => (intOf u).toNat)
    case atStart => exact HZA.out
    case round =>
      obtain ⟨X0, hb0, hlt, ⟨rfl, X1⟩ | ⟨rfl, hv0, p, c, X1, hd⟩⟩ := hrel
      · clear HZA
        by_cases hv0 : v = 0
        · subst hv0
          obtain rfl : n = 0 := HVN.out rfl
          have a0 := X1.at_ 0 rfl
          have a1 := X1.at_ 1 rfl
          have z0 := X0.at_ 0 rfl
          have z1 := X0.at_ 1 rfl
          have f0 := X0.free_ 0
          have f1 := X0.free_ 1
          have HB := Lib.hid hb0
          clear X0 X1 hb0 hlt hvm hvd HV HVN
          go_wp2
          refine bodyPost_ret (by simp [results, Tryz.results74, go_sem, z0, z1]; try rfl) rfl ?_
          exact ⟨⟨_, none, 0, 0, rfl, rfl, rfl, Nm.nil _⟩, (HB.out.setCell (Nat.le_refl _) _).setCell (Nat.le_refl _) _⟩
        · have a0 := X1.at_ 0 rfl
          have a1 := X1.at_ 1 rfl
          have HX0 := Lib.hid X0
          have HX1 := Lib.hid X1
          have HB := Lib.hid hb0
          have hvp : (v : Int) > 0 := by omega
          clear X0 X1 hb0
          go_wp2_with (at_builtin; refine wpl_app1 rfl (.tmp 17) (.tmp 20) _ 187 rfl u32U u32Row rfl (by decide) wr.heap.size 0 (.slice none 0 0) [] [.int .u32 (v : Nat)] rfl (World.ownsRow_nil _ _ _ _) rfl rfl (one32 v) (by omega) (by omega) (Nat.le_refl _) ?_; intro v' w' hown' hgr hat; obtain ⟨p9, c9, rfl, hd9⟩ := Dg.of_own (n := 1) (a := fun _ => v) hown' (fun _ _ => HVL.out); have HX0 := Lib.hid (HX0.out.grown_ hgr (by simp [Value.ownBlock])); have HX1 := Lib.hid (HX1.out.grown_ hgr (by simp [Value.ownBlock])); have HB := Lib.hid (HB.out.grown hgr HB.out.size (by intro k hk; simp [Value.ownBlock] at hk)); have b0 : w'.cell? ⟨w.heap.size + 1, 0, none⟩ = some (.bool false) := HX1.out.at_ 0 rfl; have b1 : w'.cell? ⟨w.heap.size + 1, 1, none⟩ = some (.slice none 0 0) := HX1.out.at_ 1 rfl; have f1 : w'.frozen? ⟨w.heap.size + 1, 1, none⟩ = false := HX1.out.free_ 1; have HD9 := Lib.hid hd9; clear hown' hgr hat hd9)
          go_roundw
          case rel =>
            refine ⟨HX0.out.far_ (by simp) _, HB.out.setCell (by simp) _, Nat.lt_of_lt_of_le HX0.out.lt (by simp), .inr ⟨rfl, hv0, p9, c9, HX1.out.set_ 1 _, ?_⟩⟩
            exact HD9.out.put (Sts.box HX1.out) 1 _
          case measure => simp [intOf]; omega
      · have a0 := X1.at_ 0 rfl
        have a1 := X1.at_ 1 rfl
        have z0 := X0.at_ 0 rfl
        have z1 := X0.at_ 1 rfl
        have f0 := X0.free_ 0
        have f1 := X0.free_ 1
        have HB := Lib.hid hb0
        have hzn : Zs wr false p 1 c n := by
          have h1 := Dg.norm hd (.inr hv0)
          rw [show vf (fun _ => v) 1 = v from by simp [vf]] at h1
          have h2 := zs_of (s := false) (t := false) h1.2 h1.1 (by simp)
          rwa [HV.out] at h2
        have HZ := Lib.hid (hzn.put2 (Sts.box X0) 0 1 (.bool false) (.slice p 1 c) (NotInt.bool _))
        clear X0 X1 hb0 hlt hvm hvd HV HVN hd hzn HZA
        go_wp2
        refine bodyPost_ret (by simp [results, Tryz.results74, go_sem, z0, z1]; try rfl) rfl ?_
        exact ⟨⟨_, p, 1, c, rfl, HZ.out⟩, (HB.out.setCell (Nat.le_refl _) _).setCell (Nat.le_refl _) _⟩
set_option maxHeartbeats 1000000 in
set_option maxRecDepth 100000 in
theorem c_Q (n : Int) (w : World) (h1 : -2147483648 ≤ n) (h2 : n ≤ 2147483648) :
    Calls Tryz.prog 39 #[.int .i64 n] w fun e w' => RetQ w' e (n : Rat) ∧ Below w.heap.size w w' := by
  have HZ1 := Lib.hid (fun w1 => c_Z n w1 h1 h2)
  have HZ2 := Lib.hid (fun w1 => c_Z 1 w1 (by omega) (by omega))
  clear h1 h2
  go_enter Tryz.func39, Tryz.ntmps39
  go_wp2_with fail
  obtain ⟨w0, hw0⟩ : ∃ w0, (w.alloc (.cells #[.bool false, .slice none 0 0, .bool false, .slice none 0 0] 35)) = w0 := ⟨_, rfl⟩
  rw [hw0]
  obtain ⟨X0, hb0⟩ := box1 w #[.bool false, .slice none 0 0, .bool false, .slice none 0 0] 35
  rw [hw0] at X0 hb0
  have hs0 : w.heap.size ≤ w0.heap.size := hb0.size
  clear hw0
  refine (HZ1.out w0).mono ?_
  rintro e w1 ⟨⟨s2, p2, n2, e2, rfl, hz2⟩, hb1⟩
  have HA := Lib.hid hz2
  have HB1 := Lib.hid (hb0.trans (hb1.mono hs0))
  have HX0 := Lib.hid (X0.below_ hb1 X0.lt)
  clear hz2 hb0 hb1 X0 hs0 HZ1
  go_wp2_with fail
  refine (HZ2.out w1).mono ?_
  rintro e w4 ⟨⟨s3, p3, n3, e3, rfl, hz3⟩, hb4⟩
  have HQ := Lib.hid (show Qs w4 s2 p2 n2 e2 s3 p3 n3 e3 (n : Rat) by
    unfold Qs
    rw [Rat.num_intCast, Rat.den_intCast]
    exact ⟨HA.out.keep hb4, hz3⟩)
  have HR := Lib.hid (HX0.out.below_ hb4 HX0.out.lt)
  have HB := Lib.hid (HB1.out.trans (hb4.mono HB1.out.size))
  have HG := Lib.hid (rfl : (n : Rat) = (n : Rat))
  clear hz3 hb4 HZ2 HB1 HX0 HA
  have r0 := HR.out.at_ 0 rfl
  have r1 := HR.out.at_ 1 rfl
  have r2 := HR.out.at_ 2 rfl
  have r3 := HR.out.at_ 3 rfl
  have f0 := HR.out.free_ 0
  have f1 := HR.out.free_ 1
  have f2 := HR.out.free_ 2
  have f3 := HR.out.free_ 3
  obtain ⟨w9, hw9⟩ : ∃ w9, (((w4.setCell ⟨w.heap.size, 0, none⟩ (.bool s2)).setCell ⟨w.heap.size, 1, none⟩ (.slice p2 n2 e2)).setCell ⟨w.heap.size, 2, none⟩ (.bool s3)).setCell ⟨w.heap.size, 3, none⟩ (.slice p3 n3 e3) = w9 := ⟨_, rfl⟩
  obtain ⟨E0, E1, E2, E3, hq9⟩ := rat_put HR.out HQ.out hw9
  have hb9 : Below w.heap.size w w9 := by rw [← hw9]; exact below_putR HB.out (by omega) _ _ _ _
  have HW9 := Lib.hid hw9
  have HE9 := Lib.hid (And.intro E0 (And.intro E1 (And.intro E2 E3)))
  have HQ9 := Lib.hid hq9
  have HB9 := Lib.hid hb9
  clear E0 E1 E2 E3 hq9 hb9 hw9 HQ HB HR
  go_wp2
  try rw [HW9.out]
  obtain ⟨E0, E1, E2, E3⟩ := HE9.out
  try simp only [Exit.inBlock, Exit.then]
  refine bodyPost_ret (by simp [results, Tryz.results39, go_sem, E0, E1, E2, E3]; try rfl) rfl ?_
  exact ⟨⟨s2, p2, n2, e2, s3, p3, n3, e3, rfl, HQ9.out⟩, HB9.out⟩
end Go.Proofs.YthikonjlgljikaaGreatDoor
namespace Go.Proofs.YthikonjlgljikaaGreatDoor
open Go.RowKit

set_option maxHeartbeats 1000000 in
set_option maxRecDepth 100000 in
theorem c_SameRat (s : Bool) (p : Option Addr) (n c : Nat) (t : Bool) (q : Option Addr) (m d : Nat) (x : Rat) (s' : Bool) (p' : Option Addr) (n' c' : Nat) (t' : Bool) (q' : Option Addr) (m' d' : Nat) (y : Rat) (w : World) (h : Qs w s p n c t q m d x) (h' : Qs w s' p' n' c' t' q' m' d' y) (hx : hq x ≤ 35184372088830) :
    Calls Tryz.prog 40 #[.agg #[.bool s, .slice p n c, .bool t, .slice q m d], .agg #[.bool s', .slice p' n' c', .bool t', .slice q' m' d']] w fun e w' => e = .returned (.bool (decide (x = y))) ∧ Below w.heap.size w w' := by
  obtain ⟨r, hr⟩ : ∃ r, decide (x = y) = r := ⟨_, rfl⟩
  rw [hr]
  have HR := Lib.hid hr
  have HS := Lib.hid h.sizes
  have H1 := Lib.hid (fun w1 (hb : Below w.heap.size w w1) => c_SameInt s p n c x.num s' p' n' c' y.num w1 (h.1.keep hb) (h'.1.keep hb) (by have := h.sizes; omega))
  have H2 := Lib.hid (fun w1 (hb : Below w.heap.size w w1) => c_SameInt t q m d x.den t' q' m' d' y.den w1 (h.2.keep hb) (h'.2.keep hb) (by have := h.sizes; omega))
  clear h h' hx hr
  go_enter Tryz.func40, Tryz.ntmps40
  go_wp2_with fail
  obtain ⟨w0, hw0⟩ : ∃ w0, ((w.alloc (.cells #[.bool s, .slice p n c, .bool t, .slice q m d] 35)).alloc (.cells #[.bool s', .slice p' n' c', .bool t', .slice q' m' d'] 35)) = w0 := ⟨_, rfl⟩
  rw [hw0]
  obtain ⟨X0, X1, hb0⟩ := box2 w #[.bool s, .slice p n c, .bool t, .slice q m d] 35 #[.bool s', .slice p' n' c', .bool t', .slice q' m' d'] 35
  rw [hw0] at X0 X1 hb0
  have hs0 : w.heap.size ≤ w0.heap.size := hb0.size
  clear hw0
  have a0 := X0.at_ 0 rfl
  have a1 := X0.at_ 1 rfl
  have b0 := X1.at_ 0 rfl
  have b1 := X1.at_ 1 rfl
  have HX0 := Lib.hid X0
  have HX1 := Lib.hid X1
  have HB := Lib.hid hb0
  clear X0 X1 hb0 hs0
  refine (H1.out w0 HB.out).mono ?_
  rintro e w1 ⟨rfl, hb1⟩
  have HB1 := Lib.hid (HB.out.trans (hb1.mono HB.out.size))
  replace HX0 := Lib.hid (HX0.out.below_ hb1 HX0.out.lt)
  replace HX1 := Lib.hid (HX1.out.below_ hb1 HX1.out.lt)
  have a2 := HX0.out.at_ 2 rfl
  have a3 := HX0.out.at_ 3 rfl
  have b2 := HX1.out.at_ 2 rfl
  have b3 := HX1.out.at_ 3 rfl
  clear hb1 a0 a1 b0 b1 HB H1
  by_cases h1 : x.num = y.num
  · rw [decide_eq_true h1]
    go_wp2_with fail
    refine (H2.out w1 HB1.out).mono ?_
    rintro e w2 ⟨rfl, hb2⟩
    have HB2 := Lib.hid (HB1.out.trans (hb2.mono HB1.out.size))
    obtain ⟨z, hz⟩ : ∃ z, decide ((x.den : Int) = y.den) = z := ⟨_, rfl⟩
    have HE := Lib.hid (show z = r by
      rw [← HR.out, ← hz, decide_eq_decide]
      exact ⟨fun h => Rat.ext h1 (by omega), fun h => by rw [h]⟩)
    rw [hz]
    clear hb2 H2 HB1 hz h1 HR
    go_wp2
    go_ret
    exact ⟨ret_b HE.out, HB2.out⟩
  · rw [decide_eq_false h1]
    have HE := Lib.hid (show false = r by
      rw [← HR.out]
      exact (decide_eq_false fun h => h1 (by rw [h])).symm)
    clear H2 h1 HR
    go_wp2
    go_ret
    exact ⟨ret_b HE.out, HB1.out⟩
set_option maxHeartbeats 1000000 in
set_option maxRecDepth 100000 in
theorem c_SameRats_eq (v1 v2 : Value) (n : Nat) (f : Nat → Rat) (w : World) (h1 : QL (fun j => IsQ (f j)) w v1 n) (h2 : QL (fun j => IsQ (f j)) w v2 n) (hn : n ≤ 1000000) (hf : ∀ j, j < n → hq (f j) ≤ 35184372088830) :
    Calls Tryz.prog 23 #[v1, v2] w fun e w' => e = .returned (.bool true) ∧ Below w.heap.size w w' := by
  rcases Nat.eq_zero_or_pos n with rfl | hpos
  · have e1 : ∃ a c, v1 = .slice a 0 c := by
      rcases h1 with ⟨_, h⟩ | ⟨_, _, _, e, _⟩
      · exact h
      · exact ⟨_, _, e⟩
    have e2 : ∃ a c, v2 = .slice a 0 c := by
      rcases h2 with ⟨_, h⟩ | ⟨_, _, _, e, _⟩
      · exact h
      · exact ⟨_, _, e⟩
    obtain ⟨a1, c1, rfl⟩ := e1
    obtain ⟨a2, c2, rfl⟩ := e2
    clear h1 h2 hf hn
    go_enter Tryz.func23, Tryz.ntmps23
    go_wp2
    go_loopw [5] (fun i wr => i = .int .i64 0 ∧ wr = w) (fun _ _ => 0)
    case atStart => exact ⟨rfl, rfl⟩
    case round =>
      obtain ⟨rfl, rfl⟩ := hrel
      go_wp2
      go_ret
      exact ⟨rfl, Below.refl _ _⟩
  · obtain ⟨g1, o1, l1, rfl, hg1, r1⟩ := h1.resolve_left (fun h => by omega)
    obtain ⟨g2, o2, l2, rfl, hg2, r2⟩ := h2.resolve_left (fun h => by omega)
    have R1 := Lib.hid r1
    have R2 := Lib.hid r2
    have HF := Lib.hid hf
    clear h1 h2 r1 r2 hf
    go_enter Tryz.func23, Tryz.ntmps23
    go_wp2
    go_loopw [5] (fun i wr => ∃ k : Nat, k ≤ n ∧ i = .int .i64 k ∧ Below w.heap.size w wr) (fun i _ => n - (intOf i).toNat)
    case atStart => exact ⟨0, Nat.zero_le _, rfl, Below.refl _ _⟩
    case round =>
      obtain ⟨k, hk, rfl, hb⟩ := hrel
      by_cases hlt : k < n
      · have HB := Lib.hid hb
        obtain ⟨s, p, i1, c, t, q, m, d, a0, a1, a2, a3, hx⟩ := (R1.out k hlt).keep (IsQ.solid _) hb
        obtain ⟨s', p', i1', c', t', q', m', d', b0, b1, b2, b3, hy⟩ := (R2.out k hlt).keep (IsQ.solid _) hb
        have HC := Lib.hid (fun w1 (h : Below wr.heap.size wr w1) => c_SameRat s p i1 c t q m d (f k) s' p' i1' c' t' q' m' d' (f k) w1 (Qs.keep hx h) (Qs.keep hy h) (HF.out k hlt))
        simp only [decide_true] at HC
        clear hx hy hb
        go_upto_region 6 with (fail)
        have hS1 : wr.cell? ⟨g1, o1 + k * 4, none⟩ = some (.bool s) ∧ wr.cell? ⟨g1, o1 + k * 4 + 1, none⟩ = some (.slice p i1 c) ∧ wr.cell? ⟨g1, o1 + k * 4 + 2, none⟩ = some (.bool t) ∧ wr.cell? ⟨g1, o1 + k * 4 + 3, none⟩ = some (.slice q m d) ∧ wr.cell? ⟨g2, o2 + k * 4, none⟩ = some (.bool s') ∧ wr.cell? ⟨g2, o2 + k * 4 + 1, none⟩ = some (.slice p' i1' c') ∧ wr.cell? ⟨g2, o2 + k * 4 + 2, none⟩ = some (.bool t') ∧ wr.cell? ⟨g2, o2 + k * 4 + 3, none⟩ = some (.slice q' m' d') ∧ Below wr.heap.size wr wr ∧ wr.heap.size ≤ wr.heap.size := ⟨a0, a1, a2, a3, b0, b1, b2, b3, Below.refl _ _, Below.size (show Below wr.heap.size wr wr from Below.refl _ _)⟩
        have hS0 : wr.drew.cell? ⟨g1, o1 + k * 4, none⟩ = some (.bool s) ∧ wr.drew.cell? ⟨g1, o1 + k * 4 + 1, none⟩ = some (.slice p i1 c) ∧ wr.drew.cell? ⟨g1, o1 + k * 4 + 2, none⟩ = some (.bool t) ∧ wr.drew.cell? ⟨g1, o1 + k * 4 + 3, none⟩ = some (.slice q m d) ∧ wr.drew.cell? ⟨g2, o2 + k * 4, none⟩ = some (.bool s') ∧ wr.drew.cell? ⟨g2, o2 + k * 4 + 1, none⟩ = some (.slice p' i1' c') ∧ wr.drew.cell? ⟨g2, o2 + k * 4 + 2, none⟩ = some (.bool t') ∧ wr.drew.cell? ⟨g2, o2 + k * 4 + 3, none⟩ = some (.slice q' m' d') ∧ Below wr.heap.size wr wr.drew ∧ wr.heap.size ≤ wr.drew.heap.size := S8_0_next (Below.refl _ wr).drew hS1
        clear a0 a1 a2 a3 b0 b1 b2 b3 hS1
        have M1 : True := trivial
        go_region_held3 (fun w1 => w1.cell? ⟨g1, o1 + k * 4, none⟩ = some (.bool s) ∧ w1.cell? ⟨g1, o1 + k * 4 + 1, none⟩ = some (.slice p i1 c) ∧ w1.cell? ⟨g1, o1 + k * 4 + 2, none⟩ = some (.bool t) ∧ w1.cell? ⟨g1, o1 + k * 4 + 3, none⟩ = some (.slice q m d) ∧ w1.cell? ⟨g2, o2 + k * 4, none⟩ = some (.bool s') ∧ w1.cell? ⟨g2, o2 + k * 4 + 1, none⟩ = some (.slice p' i1' c') ∧ w1.cell? ⟨g2, o2 + k * 4 + 2, none⟩ = some (.bool t') ∧ w1.cell? ⟨g2, o2 + k * 4 + 3, none⟩ = some (.slice q' m' d') ∧ Below wr.heap.size wr w1 ∧ wr.heap.size ≤ w1.heap.size)
          (first | with_reducible exact hS0 | (refine S8_0_next (by with_reducible assumption) ?_; assumption))
          (first
            | (go_at_call 40; refine (HC.out _ (S8_0_below (by with_reducible assumption))).mono ?_; rintro e w2 ⟨rfl, hb2⟩; have HB2 := Lib.hid (Below.trans HB.out (Below.mono (Below.trans (S8_0_below (by with_reducible assumption)) (Below.mono hb2 (Below.size (S8_0_below (by with_reducible assumption))))) HB.out.size))))
        go_wp2
        go_roundw
        case rel => exact ⟨k + 1, by omega, by go_num, HB2.out⟩
        case measure => simp [intOf]; omega
      · obtain rfl : k = n := by omega
        have HB := Lib.hid hb
        clear hb
        go_wp2
        go_ret
        exact ⟨rfl, HB.out⟩
end Go.Proofs.YthikonjlgljikaaGreatDoor
namespace Go.Proofs.YthikonjlgljikaaGreatDoor
open Go.RowKit

theorem ratInfo : (Tryz.prog.info? 35).map (fun i => (i.zero, i.size, i.bytes)) = some (some (.agg #[.bool false, .slice none 0 0, .bool false, .slice none 0 0]), 4, 64) := by kernel_rfl
theorem one4 (s t : Bool) (p q : Option Addr) (n c m d : Nat) : ∀ u ∈ [Value.bool s, .slice p n c, .bool t, .slice q m d], u.oneCell' = true := by
  intro u hu
  simp at hu
  rcases hu with rfl | rfl | rfl | rfl <;> rfl
theorem ni4 (s t : Bool) (p q : Option Addr) (n c m d : Nat) : ∀ u ∈ [Value.bool s, .slice p n c, .bool t, .slice q m d], NotInt u := by
  intro u hu
  simp at hu
  rcases hu with rfl | rfl | rfl | rfl <;> first | exact NotInt.bool _ | exact NotInt.slice _ _ _
theorem niz : ∀ u ∈ (Value.agg #[.bool false, .slice none 0 0, .bool false, .slice none 0 0]).cells.toList, NotInt u := by
  intro u hu
  simp [Value.cells] at hu
  rcases hu with rfl | rfl | rfl | rfl <;> first | exact NotInt.bool _ | exact NotInt.slice _ _ _
set_option maxHeartbeats 1000000 in
set_option maxRecDepth 100000 in
theorem c_Zeros (n : Nat) (w : World) (hn : n ≤ 1000000) :
    Calls Tryz.prog 65 #[.int .i64 n] w fun e w' => (∃ v, e = .returned v ∧ OwnQ (fun _ => IsQ 0) w' w.heap.size v n) ∧ Below w.heap.size w w' := by
  have HN := Lib.hid (OwnQ.nil (fun _ => IsQ 0) w w.heap.size)
  go_enter Tryz.func65, Tryz.ntmps65
  go_wp2
  go_loopw [3, 4] (fun v i wr => ∃ k : Nat, k ≤ n ∧ i = .int .i64 k ∧ OwnQ (fun _ => IsQ 0) wr w.heap.size v k ∧ Below w.heap.size w wr) (fun _ i _ => n - (intOf i).toNat)
  case atStart => exact ⟨0, Nat.zero_le _, rfl, HN.out, Below.refl _ _⟩
  case round =>
    obtain ⟨k, hk, rfl, ho, hb⟩ := hrel
    have HO := Lib.hid ho
    have HB := Lib.hid hb
    clear ho hb HN
    by_cases hlt : k < n
    · go_wp2_with fail
      refine (c_Q 0 wr (by omega) (by omega)).mono ?_
      rintro e w2 ⟨⟨s1, p1, n1, c1, t1, q1, m1, d1, rfl, hq⟩, hb2⟩
      obtain ⟨xs, hK, hX⟩ := HO.out.keep (fun _ => IsQ.solid _) hb2
      have HK := Lib.hid hK
      have HX := Lib.hid hX
      have HQ := Lib.hid (show IsQ 0 w2 s1 p1 n1 c1 t1 q1 m1 d1 from hq)
      have HB1 := Lib.hid (HB.out.trans (hb2.mono HB.out.size))
      clear hK hX hq hb2 HO HB
      go_wp2_with (at_builtin; refine wpl_app2 NotInt rfl (.tmp 10) (.tmp 12) _ 35 rfl Tryz.underlying24 ratInfo rfl (by decide) w.heap.size k u3 xs [.bool s1, .slice p1 n1 c1, .bool t1, .slice q1 m1 d1] rfl HK.out rfl rfl (one4 _ _ _ _ _ _ _ _) (by omega) (by omega) HB1.out.size (ni4 _ _ _ _ _ _ _ _) niz ?_; intro v' w' hown' hgr hat; have HO2 := Lib.hid (OwnQ.push (W := _) (fun _ => IsQ.solid _) HK.out HX.out HQ.out hown' hgr); have HB2 := Lib.hid (own_below HB1.out HK.out.1 hgr (Nat.le_refl _) HB1.out.size); clear hown' hgr hat)
      go_roundw
      case rel => exact ⟨k + 1, by omega, by go_num, HO2.out, HB2.out⟩
      case measure => simp [intOf]; omega
    · obtain rfl : k = n := by omega
      go_wp2
      go_ret
      exact ⟨⟨_, rfl, HO.out⟩, HB.out⟩

theorem run_clone {P : Program} (w : World) (ty : TypeId) (hU : P.underlying 31 = some (.slice 187)) (hinfo : (P.info? 187).map (fun i => (i.zero, i.size, i.bytes)) = some (some (.int .u32 0), 1, 4)) (g : Nat)
    (hown : w.ownsRow g 187 1 (.slice (some ⟨g, 0, none⟩) 0 0) 0 []) {p : Option Addr} {c n : Nat} {a : Nat → Nat} (hd : Dg w p c n a) (hn : n ≤ 1000) (hg : g ≤ w.heap.size) :
    ∃ p' c' w', (Builtin.append_ #[31, 31] ty #[.slice (some ⟨g, 0, none⟩) 0 0, .slice p n c]).run P w = .ok (.slice p' n c') w' ∧ Dg w' p' c' n a ∧ w.grownBy w' (some g) := by
  obtain ⟨i0, hi, hz0, hz1, hz2⟩ := info_parts hinfo
  cases p with
  | none =>
    obtain rfl : n = 0 := by
      rcases hd.at' with h1 | ⟨g, o, e, _⟩
      · exact h1
      · cases e
    have hr := run_app_nil (P := P) (w := w) g 31 ty 187 i0 1 hU hi _ _ c _ hown
    exact ⟨_, _, w, hr, ⟨Nat.le_refl _, hd.lt, .inl rfl⟩, ⟨rfl, rfl, rfl, Nat.le_refl _, fun _ _ _ => rfl⟩⟩
  | some q =>
    have hcell : ∀ (j : Nat) (u : Value), (cells32 a n)[j]? = some u → w.cell? (q.add j) = some u := by
      intro j u hu
      obtain ⟨hj, rfl⟩ := cells32_of hu
      obtain ⟨g, o', e, hg, hc⟩ := hd.head (by omega)
      injection e with e
      subst e
      rw [Addr.add_lit]
      exact hc j hj
    obtain ⟨v', w', hr, g1, g2, _, _⟩ := run_append_own_at (P := P) w g 31 ty 187 i0 (.int .u32 0) 1 4 hU hi hz0 hz1 hz2 rfl (by decide) _ 0 [] hown q n c (cells32 a n) (by rw [cells32_len, Nat.mul_one]) hcell cells32_one (by unfold maxLen; omega) (by omega) hg
    obtain ⟨p', c', rfl, hd'⟩ := Dg.of_own (n := n) (a := a) (by simpa using g1) hd.lt
    refine ⟨p', c', w', ?_, hd', g2⟩
    rw [hr]
theorem step_clone {P : Program} {w : World} {ops : Array Oper} {o : Oper} {b : Act} {K : Act → World → Prop} {Q : Exit → Act → World → Prop} {E : Prop} (hgd : o.guard = none) (s x : Operand)
    (ho : o.op = .call { callee := .builtin .append, args := #[s, x], argTypes := #[31, 31] })
    (hU : P.underlying 31 = some (.slice 187)) (hinfo : (P.info? 187).map (fun i => (i.zero, i.size, i.bytes)) = some (some (.int .u32 0), 1, 4)) (g : Nat) (hs : b.eval s = .slice (some ⟨g, 0, none⟩) 0 0)
    (hown : w.ownsRow g 187 1 (.slice (some ⟨g, 0, none⟩) 0 0) 0 []) {p : Option Addr} {c n : Nat} {a : Nat → Nat} (hx : b.eval x = .slice p n c) (hd : Dg w p c n a) (hn : n ≤ 1000) (hg : g ≤ w.heap.size)
    (h : ∀ p' c' w', Dg w' p' c' n a → w.grownBy w' (some g) → K (b.put o.dst (.slice p' n c')) w') :
    if Region.wanted o (yielded ops b.tmps) = true then Oper.wp P o b w K Q else E := by
  have hw : Region.wanted o (yielded ops b.tmps) = true := by simp [Region.wanted, hgd]
  rw [if_pos hw]
  obtain ⟨p', c', w', hr, h2, h3⟩ := run_clone (P := P) w o.type hU hinfo g hown hd hn hg
  unfold Oper.wp execOp
  simp only [ho, resolve, invoke, builtin, Sem.run_bind, Sem.run_pure, Result.andThen_ok, List.map_toArray, List.map_cons, List.map_nil, hs, hx, hr]
  exact h p' c' w' h2 h3
end Go.Proofs.YthikonjlgljikaaGreatDoor
