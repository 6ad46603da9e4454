/- Contracts of power, factors, and of what is computed by a call for each prime power. -/
import Derived.Test.YthikonjlgljikaaDoorArith
namespace Go.Proofs.YthikonjlgljikaaDoor
open Go.RowKit

theorem c_power (p : Nat) (e : Int) (w : World) (hp : 0 < p) (he : 0 ≤ e) (he' : e ≤ 64) (h : p ^ e.toNat < 9223372036854775808) :
    Calls Tryd.prog 71 #[.int .i64 p, .int .i64 e] w fun en w' => en = .returned (.int .i64 ((p ^ e.toNat : Nat) : Int)) ∧ w = w' := by
  go_enter Tryd.func71, Tryd.ntmps71
  go_wp2
  go_loop [5, 7] (fun o i => ∃ k : Nat, (k : Int) ≤ e ∧ i = .int .i64 k ∧ o = .int .i64 ((p ^ k : Nat) : Int)) (fun _ i => e.toNat - (intOf i).toNat)
  case atStart => exact ⟨0, he, rfl, rfl⟩
  case round =>
    obtain ⟨k, hk, rfl, rfl⟩ := hrel
    by_cases hlt : (k : Int) < e
    · have h1 : p ^ (k + 1) ≤ p ^ e.toNat := Nat.pow_le_pow_right hp (by omega)
      have h2 : ((p ^ k : Nat) : Int) * (p : Int) = ((p ^ (k + 1) : Nat) : Int) := by rw [Nat.pow_succ]; exact (Int.natCast_mul _ _).symm
      generalize hr : p ^ (k + 1) = r at h1 h2
      generalize p ^ k = s at h2
      have HR := Lib.hid hr
      clear hr
      generalize p ^ e.toNat = t at h1 h
      have H2 := Lib.hid h2
      have hb0 : 0 ≤ (s : Int) * (p : Int) := by rw [h2]; omega
      have hb1 : (s : Int) * (p : Int) < 9223372036854775808 := by rw [h2]; omega
      clear h2
      go_wp2
      go_round
      case rel => exact ⟨k + 1, by omega, by go_num, val_i (by rw [HR.out, H2.out])⟩
      case measure => simp [intOf]; omega
    · have hke : k = e.toNat := by omega
      subst hke
      go_wp2
      go_ret
      exact ⟨rfl, rfl⟩
set_option maxRecDepth 100000 in
set_option maxHeartbeats 1000000 in
theorem c_factors (n fid : Nat) (c0 c1 : Value) (w : World) (I : Nat → World → Prop) (hn : 0 < n) (hn' : n < 2147483648) (h0 : I 0 w)
    (hcf : ∀ (args : Array Value) (wk : World), (callFunc fid args).run Tryd.prog wk = .ok (.enter fid args) wk)
    (hcall : ∀ (k q e : Nat) (wk : World), (Pl.facs n)[k]? = some (q, e) → I k wk → Calls Tryd.prog fid #[.int .i64 q, .int .i64 e, c0, c1] wk fun en w' => en = .returned (.tuple #[]) ∧ I (k+1) w') :
    Calls Tryd.prog 69 #[.int .i64 n, .func (.func fid) #[] #[c0, c1]] w fun en w' => en = .returned (.tuple #[]) ∧ I (Pl.facs n).length w' := by
  have HC := Lib.hid hcall
  clear hcall
  go_enter Tryd.func69, Tryd.ntmps69
  go_wp2
  go_loopw [0, 4] (fun x y wr => ∃ (n' p f : Nat) (done : List (Nat × Nat)), x = .int .i64 n' ∧ y = .int .i64 p ∧ 0 < n' ∧ n' ≤ n ∧ 1 < p ∧ p ≤ n + 1 ∧ Pl.facM p n' < f ∧ Pl.facs n = done ++ Pl.facP f p n' ∧ I done.length wr) (fun x y _ => Pl.facM (intOf y).toNat (intOf x).toNat)
  case atStart => exact ⟨n, 2, n + 3, [], rfl, rfl, hn, Nat.le_refl _, by omega, by omega, by unfold Pl.facM; split <;> (try split) <;> omega, rfl, h0⟩
  case round =>
    obtain ⟨m, p, f, done, rfl, rfl, hm0, hm, hp, hpn, hf, hfac, hI⟩ := hrel
    have HF := Lib.hid hfac
    have HI := Lib.hid hI
    clear hfac hI h0
    by_cases hm1 : m ≤ 1
    · go_wp2
      go_end0
      refine ⟨rfl, ?_⟩
      have h1 : Pl.facP f p m = [] := by cases f with | zero => rfl | succ f => rw [Pl.facP, if_pos hm1]
      rw [HF.out, h1, List.append_nil]
      exact HI.out
    · obtain ⟨pp, hpp⟩ : ∃ pp : Nat, pp = p * p := ⟨_, rfl⟩
      have hppi : (p : Int) * (p : Int) = (pp : Int) := by rw [hpp]; exact (Int.natCast_mul _ _).symm
      have hple : p ≤ pp := by rw [hpp]; exact Nat.le_mul_of_pos_left _ (by omega)
      have hppb : pp ≤ 4611686018427387904 := by rw [hpp]; exact Nat.le_trans (Nat.mul_le_mul (show p ≤ 2147483648 by omega) (show p ≤ 2147483648 by omega)) (by omega)
      obtain ⟨q, hq⟩ : ∃ q, q = if m < p * p then m else p := ⟨_, rfl⟩
      have hq1 : 1 < q ∧ q ≤ m := by rw [hq]; split <;> omega
      obtain ⟨hq1, hqm⟩ := hq1
      obtain ⟨er, her⟩ : ∃ er, er = Pl.mult m q m := ⟨_, rfl⟩
      obtain ⟨E, R⟩ := er
      have hlt' := Pl.facM_lt hp (by omega) hq her.symm
      have hpos := Pl.mult_pos m q m hm0 (by omega)
      have hEm := Pl.mult_le m q m
      rw [← her] at hpos hEm
      obtain ⟨hR0, hRm⟩ := hpos
      dsimp only at hR0 hRm hEm
      have HPP := Lib.hid hpp
      have HQ := Lib.hid hq
      have HER := Lib.hid her
      clear hpp hq her
      go_upto_if 14 with (fail)
      go_cut [4] (fun v wc => v = .int .i64 q ∧ wc = wr)
      case first =>
        by_cases hlt : m < pp
        · have hqe : q = m := by rw [HQ.out, ← HPP.out, if_pos hlt]
          have HQE := Lib.hid hqe
          clear hqe
          go_wp2
          go_meet
          case rel => exact ⟨val_i (by rw [HQE.out]), rfl⟩
        · have hqe : q = p := by rw [HQ.out, ← HPP.out, if_neg hlt]
          have HQE := Lib.hid hqe
          clear hqe
          go_wp2
          go_meet
          case rel => exact ⟨val_i (by rw [HQE.out]), rfl⟩
      case rest =>
        obtain ⟨rfl, rfl⟩ := hcut
        clear hppi hple hppb
        go_wp2
        obtain ⟨wo, rfl⟩ : ∃ wo : World, wo = wc := ⟨_, rfl⟩
        go_loop [0, 5] (fun x y => ∃ (m' e' g : Nat), x = .int .i64 m' ∧ y = .int .i64 e' ∧ 0 < m' ∧ m' ≤ m ∧ e' ≤ E ∧ m' ≤ g ∧ Pl.mult g q m' = (E - e', R)) (fun x _ => (intOf x).toNat)
        case atStart => exact ⟨m, 0, m, rfl, rfl, hm0, Nat.le_refl _, Nat.zero_le _, Nat.le_refl _, HER.out.symm⟩
        case round =>
          obtain ⟨m', e', g, rfl, rfl, hm0', hmm', hee, hg, hmul⟩ := hrel
          obtain ⟨g, rfl⟩ : ∃ h, g = h + 1 := ⟨g - 1, by omega⟩
          by_cases hd : m' % q = 0
          · have hdi : (((m' : Int) % (q : Int)) == 0) = true := by rw [← Int.natCast_emod, hd]; rfl
            have hdv : (m' : Int) / (q : Int) = ((m' / q : Nat) : Int) := (Int.natCast_ediv _ _).symm
            rw [Pl.mult, if_pos hd] at hmul
            injection hmul with hmul1 hmul2
            have h1 : 0 < m' / q := Nat.div_pos (Nat.le_of_dvd hm0' (Nat.dvd_of_mod_eq_zero hd)) (by omega)
            have h2 : m' / q < m' := Nat.div_lt_self hm0' hq1
            generalize hdq : m' / q = d at hmul1 hmul2 h1 h2 hdv
            have H1 := Lib.hid hmul1
            have H2 := Lib.hid hmul2
            have hmul3 : e' + 1 ≤ E := by omega
            clear hmul1 hmul2 hd hdq
            go_wp2
            go_round
            case rel => exact ⟨d, e' + 1, g, rfl, by go_num, h1, by omega, by omega, by omega, Prod.ext (by have := H1.out; show (Pl.mult g q d).1 = E - (e' + 1); omega) H2.out⟩
            case measure => simp only [intOf]; omega
          · have hdi : (((m' : Int) % (q : Int)) == 0) = false := by rw [← Int.natCast_emod]; simp; omega
            rw [Pl.mult, if_neg hd] at hmul
            injection hmul with hmul1 hmul2
            subst hmul2
            have heE : e' = E := by omega
            subst heE
            clear hmul1 hd
            obtain ⟨f, rfl⟩ : ∃ h, f = h + 1 := ⟨f - 1, by omega⟩
            have hstep := Pl.facP_succ (f := f) (show 1 < m by omega) HQ.out HER.out.symm
            by_cases he0 : 0 < e'
            · rw [if_pos he0] at hstep
              have HS := Lib.hid hstep
              clear hstep
              have hin : (Pl.facs n)[done.length]? = some (q, e') := by rw [HF.out, HS.out]; simp
              have HIN := Lib.hid hin
              clear hin
              go_wp2_with fail
              refine (HC.out done.length q e' _ HIN.out HI.out).mono ?_
              rintro en w1 ⟨rfl, hI1⟩
              have HI1 := Lib.hid hI1
              clear hI1
              go_wp2
              go_roundw
              case rel => exact ⟨m', q + 1, f, done ++ [(q, e')], rfl, by go_num, hm0', by omega, by omega, by omega, by omega, by rw [HF.out, HS.out, List.append_assoc]; rfl, by rw [List.length_append]; exact HI1.out⟩
              case measure => simp only [intOf]; exact hlt'
            · rw [if_neg he0] at hstep
              have HS := Lib.hid hstep
              clear hstep
              go_wp2
              go_roundw
              case rel => exact ⟨m', q + 1, f, done, rfl, by go_num, hm0', by omega, by omega, by omega, by omega, by rw [HF.out, HS.out], HI.out⟩
              case measure => simp only [intOf]; exact hlt'
end Go.Proofs.YthikonjlgljikaaDoor
