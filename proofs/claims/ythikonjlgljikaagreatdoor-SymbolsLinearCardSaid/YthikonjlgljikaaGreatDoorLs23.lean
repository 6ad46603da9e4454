/- Contract of halfplaneref01.divided: division bit by bit. Contract of halfplaneref01.divided: the long way, and both. Contracts of halfplanebase.SameInt and halfplaneref01.Of. Contract of halfplaneref02.Add, for normalized fractions. -/
import Derived.Test.YthikonjlgljikaaGreatDoorLs22
namespace Go.Proofs.YthikonjlgljikaaGreatDoor
open Go.RowKit

/-- The state of the division: bits below k are still to come. -/
def BitAt (w : World) (gq M k u v R : Nat) : Prop := ∃ rq, Row w gq M rq ∧ (∀ l, l < M → 2 ^ (min 32 (k - 32 * l)) ∣ rq l) ∧ u = v * vf rq M + R ∧ R < v * 2 ^ k
theorem BitAt.far {w w' : World} {gq M k u v R : Nat} (h : BitAt w gq M k u v R) (hb : Below w.heap.size w w') : BitAt w' gq M k u v R := by
  obtain ⟨rq, hrow, h2⟩ := h
  exact ⟨rq, hrow.below hb hrow.1.lt, h2⟩
end Go.Proofs.YthikonjlgljikaaGreatDoor
namespace Go.Proofs.YthikonjlgljikaaGreatDoor
open Go.RowKit

/-- Digits that do not stand in block G. -/
def Off (G : Nat) (p : Option Addr) (n : Nat) : Prop := n = 0 ∨ ∃ g o, p = some ⟨g, o, none⟩ ∧ g ≠ G
theorem Dg.off {w : World} {G : Nat} {p : Option Addr} {c n : Nat} {a : Nat → Nat} (h : Dg w p c n a) (ho : Off G p n) (i : Nat) (v : Value) : Dg (w.setCell ⟨G, i, none⟩ v) p c n a :=
  ⟨h.cap, h.lt, by
    rcases h.at' with h1 | ⟨g, o, e, hg, hc⟩
    · exact .inl h1
    · rcases ho with h0 | ⟨g', o', e', hne⟩
      · exact .inl h0
      · rw [e] at e'
        injection e' with e'; injection e' with e1 e2
        exact .inr ⟨g, o, e, by simpa using hg, fun j hj => by
          rw [World.cell?_setCell_far w ⟨G, i, none⟩ ⟨g, o + j, none⟩ v (by show G ≠ g; rw [e1]; exact Ne.symm hne)]
          exact hc j hj⟩⟩
end Go.Proofs.YthikonjlgljikaaGreatDoor
namespace Go.Proofs.YthikonjlgljikaaGreatDoor
open Go.RowKit

set_option maxHeartbeats 1000000 in
set_option maxRecDepth 100000 in
theorem c_SameInt (s : Bool) (p : Option Addr) (n c : Nat) (x : Int) (t : Bool) (q : Option Addr) (m d : Nat) (y : Int) (w : World) (h : Zs w s p n c x) (h' : Zs w t q m d y) (hn : n ≤ 35184372088830) :
    Calls Tryz.prog 79 #[.agg #[.bool s, .slice p n c], .agg #[.bool t, .slice q m d]] w fun e w' => e = .returned (.bool (decide (x = y))) ∧ Below w.heap.size w w' := by
  obtain ⟨r, hr⟩ : ∃ r, decide (x = y) = r := ⟨_, rfl⟩
  rw [hr]
  obtain ⟨hs, hnn, hnm⟩ := h
  obtain ⟨ht, hmm, hmn⟩ := h'
  unfold Nm at hnm hmn
  rw [hnn] at hnm
  rw [hmm] at hmn
  have HR := Lib.hid hr
  have HS := Lib.hid hs
  have HT := Lib.hid ht
  have HN := Lib.hid hnn
  have HM := Lib.hid hmm
  have HX := Lib.hid hnm
  have HY := Lib.hid hmn
  have HB0 := Lib.hid (((Below.refl w.heap.size w).alloc (Nat.le_refl _) (.cells #[.bool s, .slice p n c] 33)).alloc (by simp) (.cells #[.bool t, .slice q m d] 33))
  clear hr hs ht hnn hmm hnm hmn
  by_cases hst : s = t
  · by_cases hnm : n = m
    · subst hst hnm
      go_enter Tryz.func79, Tryz.ntmps79
      go_wp2
      obtain ⟨w0, hw0⟩ : ∃ w0, (w.alloc (.cells #[.bool s, .slice p n c] 33)).alloc (.cells #[.bool s, .slice q n d] 33) = w0 := ⟨_, rfl⟩
      rw [hw0]
      rw [hw0] at HB0
      obtain ⟨X0, X1, _⟩ := box2 w #[.bool s, .slice p n c] 33 #[.bool s, .slice q n d] 33
      rw [hw0] at X0 X1
      have a1 := X0.at_ 1 rfl
      have b1 := X1.at_ 1 rfl
      clear X0 X1 hw0
      go_loopw [5] (fun v5 wr => ∃ i : Nat, i ≤ n ∧ v5 = .int .i64 i ∧ (∀ j, j < i → dg x.natAbs j = dg y.natAbs j) ∧ ∃ k, wr = w0.drewN k) (fun v5 _ => n - (intOf v5).toNat)
      case atStart => exact ⟨0, Nat.zero_le _, rfl, fun j hj => absurd hj (Nat.not_lt_zero _), 0, rfl⟩
      case round =>
        obtain ⟨i, hi, rfl, heq, mr, rfl⟩ := hrel
        have HE := Lib.hid heq
        clear heq
        by_cases hin : i < n
        · obtain ⟨g1, o1, rfl, hg1, hc1⟩ := HX.out.head (by omega)
          obtain ⟨g2, o2, rfl, hg2, hc2⟩ := HY.out.head (by omega)
          have c1 : w0.cell? ⟨g1, o1 + i, none⟩ = some (.int .u32 (dg x.natAbs i : Nat)) := (HB0.out.cell (p := ⟨g1, o1 + i, none⟩) hg1).trans (hc1 i hin)
          have c2 : w0.cell? ⟨g2, o2 + i, none⟩ = some (.int .u32 (dg y.natAbs i : Nat)) := (HB0.out.cell (p := ⟨g2, o2 + i, none⟩) hg2).trans (hc2 i hin)
          obtain ⟨u, hu⟩ : ∃ u, dg x.natAbs i = u := ⟨_, rfl⟩
          obtain ⟨v, hv⟩ : ∃ v, dg y.natAbs i = v := ⟨_, rfl⟩
          rw [hu] at c1
          rw [hv] at c2
          have HU := Lib.hid hu
          have HV := Lib.hid hv
          clear hc1 hc2 hu hv
          by_cases huv : u = v
          · subst huv
            go_wp2
            go_quiet (fail)
            go_wp2
            go_roundw
            case rel => exact ⟨i + 1, by omega, by go_num, fun j hj => by
              rcases Nat.lt_or_ge j i with h3 | h3
              · exact HE.out j h3
              · rw [show j = i from by omega, HU.out, HV.out], _, by first | rfl | rw [dr2]⟩
            case measure => simp [intOf]; omega
          · have hub : ((u : Int) != (v : Int)) = true := by rw [bne_iff_ne]; omega
            have HF := Lib.hid (show false = r by
              rw [← HR.out]
              refine (decide_eq_false fun h => huv ?_).symm
              rw [← HU.out, ← HV.out, h])
            clear huv
            go_wp2
            go_quiet (fail)
            go_wp2
            go_ret
            exact ⟨by rw [← HF.out]; rfl, by first | exact below_drewN' (below_drewN' HB0.out _) _ | exact below_drewN' HB0.out _⟩
        · obtain rfl : i = n := by omega
          have HF := Lib.hid (show true = r by
            rw [← HR.out]
            refine (decide_eq_true ?_).symm
            have h1 := dg_inj HN.out HM.out HE.out
            have h2 := HS.out
            rw [HT.out, decide_eq_decide] at h2
            omega)
          go_wp2
          go_ret
          exact ⟨by rw [← HF.out]; rfl, below_drewN' HB0.out _⟩
    · subst hst
      have hnb : ((n : Int) != (m : Int)) = true := by rw [bne_iff_ne]; omega
      have HF := Lib.hid (show false = r by
        rw [← HR.out]
        exact (decide_eq_false fun h => hnm (by rw [← HN.out, ← HM.out, h])).symm)
      clear hnm
      go_enter Tryz.func79, Tryz.ntmps79
      go_wp2
      go_ret
      exact ⟨by rw [← HF.out]; rfl, HB0.out⟩
  · obtain rfl : t = !s := by cases s <;> cases t <;> simp_all
    have hsb : (s != !s) = true := by cases s <;> rfl
    have HF := Lib.hid (show false = r by
      rw [← HR.out]
      refine (decide_eq_false fun h => ?_).symm
      have h1 := HS.out
      have h2 := HT.out
      rw [← h, ← h1] at h2
      cases s <;> cases h2)
    clear hst
    go_enter Tryz.func79, Tryz.ntmps79
    go_wp2
    go_ret
    exact ⟨by rw [← HF.out]; rfl, HB0.out⟩
end Go.Proofs.YthikonjlgljikaaGreatDoor
namespace Go.Proofs.YthikonjlgljikaaGreatDoor
open Go.RowKit

def TwoQ (w : World) (A B : Nat) (x y : Rat) : Prop := ∃ s1 p1 n1 c1 t1 q1 m1 d1 s2 p2 n2 c2 t2 q2 m2 d2, Blk w A 35 #[.bool s1, .slice p1 n1 c1, .bool t1, .slice q1 m1 d1] ∧ Blk w B 35 #[.bool s2, .slice p2 n2 c2, .bool t2, .slice q2 m2 d2] ∧ Qs w s1 p1 n1 c1 t1 q1 m1 d1 x ∧ Qs w s2 p2 n2 c2 t2 q2 m2 d2 y
theorem TwoQ.symm {w : World} {A B : Nat} {x y : Rat} (h : TwoQ w A B x y) : TwoQ w B A y x := by
  obtain ⟨s1, p1, n1, c1, t1, q1, m1, d1, s2, p2, n2, c2, t2, q2, m2, d2, h1, h2, h3, h4⟩ := h
  exact ⟨_, _, _, _, _, _, _, _, _, _, _, _, _, _, _, _, h2, h1, h4, h3⟩
end Go.Proofs.YthikonjlgljikaaGreatDoor
