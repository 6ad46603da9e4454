/- Contract of correspondence.Images. -/
import Derived.Test.YthikonjlgljikaaGreatDoorIm437
namespace Go.Proofs.YthikonjlgljikaaGreatDoor
set_option linter.unusedSimpArgs false
open Go.RowKit

theorem S2_4_next {B : Nat} {w0 w w' : World} {a0 a1 b0 b1 b2 b3 : Addr} {v0 v1 : Value} (hb : Below w.heap.size w w') (h : w.cell? a0 = some v0 ∧ w.cell? a1 = some v1 ∧ w.cell? b0 = some (cellOf w b0) ∧ w.frozen? b0 = false ∧ Sts w b0.block ∧ w.cell? b1 = some (cellOf w b1) ∧ w.frozen? b1 = false ∧ Sts w b1.block ∧ w.cell? b2 = some (cellOf w b2) ∧ w.frozen? b2 = false ∧ Sts w b2.block ∧ w.cell? b3 = some (cellOf w b3) ∧ w.frozen? b3 = false ∧ Sts w b3.block ∧ Below B w0 w ∧ B ≤ w.heap.size) : w'.cell? a0 = some v0 ∧ w'.cell? a1 = some v1 ∧ w'.cell? b0 = some (cellOf w' b0) ∧ w'.frozen? b0 = false ∧ Sts w' b0.block ∧ w'.cell? b1 = some (cellOf w' b1) ∧ w'.frozen? b1 = false ∧ Sts w' b1.block ∧ w'.cell? b2 = some (cellOf w' b2) ∧ w'.frozen? b2 = false ∧ Sts w' b2.block ∧ w'.cell? b3 = some (cellOf w' b3) ∧ w'.frozen? b3 = false ∧ Sts w' b3.block ∧ Below B w0 w' ∧ B ≤ w'.heap.size := SS.next (B := B) (w0 := w0) (l := [(a0, v0), (a1, v1)]) (m := [b0, b1, b2, b3]) hb h
theorem S2_4_below {B : Nat} {w0 w : World} {a0 a1 b0 b1 b2 b3 : Addr} {v0 v1 : Value} (h : w.cell? a0 = some v0 ∧ w.cell? a1 = some v1 ∧ w.cell? b0 = some (cellOf w b0) ∧ w.frozen? b0 = false ∧ Sts w b0.block ∧ w.cell? b1 = some (cellOf w b1) ∧ w.frozen? b1 = false ∧ Sts w b1.block ∧ w.cell? b2 = some (cellOf w b2) ∧ w.frozen? b2 = false ∧ Sts w b2.block ∧ w.cell? b3 = some (cellOf w b3) ∧ w.frozen? b3 = false ∧ Sts w b3.block ∧ Below B w0 w ∧ B ≤ w.heap.size) : Below B w0 w := SS.below (B := B) (w0 := w0) (l := [(a0, v0), (a1, v1)]) (m := [b0, b1, b2, b3]) h
theorem S2_4_end {B : Nat} {w0 w w' : World} {a0 a1 b0 b1 b2 b3 : Addr} {v0 v1 : Value} (hb : Below w.heap.size w w') (h : w.cell? a0 = some v0 ∧ w.cell? a1 = some v1 ∧ w.cell? b0 = some (cellOf w b0) ∧ w.frozen? b0 = false ∧ Sts w b0.block ∧ w.cell? b1 = some (cellOf w b1) ∧ w.frozen? b1 = false ∧ Sts w b1.block ∧ w.cell? b2 = some (cellOf w b2) ∧ w.frozen? b2 = false ∧ Sts w b2.block ∧ w.cell? b3 = some (cellOf w b3) ∧ w.frozen? b3 = false ∧ Sts w b3.block ∧ Below B w0 w ∧ B ≤ w.heap.size) : ((w'.cell? b0).isSome = true ∧ Sts w' b0.block) ∧ ((w'.cell? b1).isSome = true ∧ Sts w' b1.block) ∧ ((w'.cell? b2).isSome = true ∧ Sts w' b2.block) ∧ ((w'.cell? b3).isSome = true ∧ Sts w' b3.block) := ⟨SS.end_ (B := B) (w0 := w0) (l := [(a0, v0), (a1, v1)]) (m := [b0, b1, b2, b3]) hb h (by simp), SS.end_ (B := B) (w0 := w0) (l := [(a0, v0), (a1, v1)]) (m := [b0, b1, b2, b3]) hb h (by simp), SS.end_ (B := B) (w0 := w0) (l := [(a0, v0), (a1, v1)]) (m := [b0, b1, b2, b3]) hb h (by simp), SS.end_ (B := B) (w0 := w0) (l := [(a0, v0), (a1, v1)]) (m := [b0, b1, b2, b3]) hb h (by simp)⟩
theorem S2_4_put {B : Nat} {w0 w : World} {a0 a1 b0 b1 b2 b3 : Addr} {v0 v1 : Value} (h : w.cell? a0 = some v0 ∧ w.cell? a1 = some v1 ∧ w.cell? b0 = some (cellOf w b0) ∧ w.frozen? b0 = false ∧ Sts w b0.block ∧ w.cell? b1 = some (cellOf w b1) ∧ w.frozen? b1 = false ∧ Sts w b1.block ∧ w.cell? b2 = some (cellOf w b2) ∧ w.frozen? b2 = false ∧ Sts w b2.block ∧ w.cell? b3 = some (cellOf w b3) ∧ w.frozen? b3 = false ∧ Sts w b3.block ∧ Below B w0 w ∧ B ≤ w.heap.size) {p0 p1 p2 p3 : Addr} {u0 u1 u2 u3 : Value} (hi0 : NotInt u0) (hp0 : B ≤ p0.block) (hn0_0 : p0.block ≠ a0.block) (hn0_1 : p0.block ≠ a1.block) (hi1 : NotInt u1) (hp1 : B ≤ p1.block) (hn1_0 : p1.block ≠ a0.block) (hn1_1 : p1.block ≠ a1.block) (hi2 : NotInt u2) (hp2 : B ≤ p2.block) (hn2_0 : p2.block ≠ a0.block) (hn2_1 : p2.block ≠ a1.block) (hi3 : NotInt u3) (hp3 : B ≤ p3.block) (hn3_0 : p3.block ≠ a0.block) (hn3_1 : p3.block ≠ a1.block) : ((((w.setCell p0 u0).setCell p1 u1).setCell p2 u2).setCell p3 u3).cell? a0 = some v0 ∧ ((((w.setCell p0 u0).setCell p1 u1).setCell p2 u2).setCell p3 u3).cell? a1 = some v1 ∧ ((((w.setCell p0 u0).setCell p1 u1).setCell p2 u2).setCell p3 u3).cell? b0 = some (cellOf ((((w.setCell p0 u0).setCell p1 u1).setCell p2 u2).setCell p3 u3) b0) ∧ ((((w.setCell p0 u0).setCell p1 u1).setCell p2 u2).setCell p3 u3).frozen? b0 = false ∧ Sts ((((w.setCell p0 u0).setCell p1 u1).setCell p2 u2).setCell p3 u3) b0.block ∧ ((((w.setCell p0 u0).setCell p1 u1).setCell p2 u2).setCell p3 u3).cell? b1 = some (cellOf ((((w.setCell p0 u0).setCell p1 u1).setCell p2 u2).setCell p3 u3) b1) ∧ ((((w.setCell p0 u0).setCell p1 u1).setCell p2 u2).setCell p3 u3).frozen? b1 = false ∧ Sts ((((w.setCell p0 u0).setCell p1 u1).setCell p2 u2).setCell p3 u3) b1.block ∧ ((((w.setCell p0 u0).setCell p1 u1).setCell p2 u2).setCell p3 u3).cell? b2 = some (cellOf ((((w.setCell p0 u0).setCell p1 u1).setCell p2 u2).setCell p3 u3) b2) ∧ ((((w.setCell p0 u0).setCell p1 u1).setCell p2 u2).setCell p3 u3).frozen? b2 = false ∧ Sts ((((w.setCell p0 u0).setCell p1 u1).setCell p2 u2).setCell p3 u3) b2.block ∧ ((((w.setCell p0 u0).setCell p1 u1).setCell p2 u2).setCell p3 u3).cell? b3 = some (cellOf ((((w.setCell p0 u0).setCell p1 u1).setCell p2 u2).setCell p3 u3) b3) ∧ ((((w.setCell p0 u0).setCell p1 u1).setCell p2 u2).setCell p3 u3).frozen? b3 = false ∧ Sts ((((w.setCell p0 u0).setCell p1 u1).setCell p2 u2).setCell p3 u3) b3.block ∧ Below B w0 ((((w.setCell p0 u0).setCell p1 u1).setCell p2 u2).setCell p3 u3) ∧ B ≤ ((((w.setCell p0 u0).setCell p1 u1).setCell p2 u2).setCell p3 u3).heap.size := (SS.put (B := B) (w0 := w0) (l := [(a0, v0), (a1, v1)]) (m := [b0, b1, b2, b3]) (SS.put (B := B) (w0 := w0) (l := [(a0, v0), (a1, v1)]) (m := [b0, b1, b2, b3]) (SS.put (B := B) (w0 := w0) (l := [(a0, v0), (a1, v1)]) (m := [b0, b1, b2, b3]) (SS.put (B := B) (w0 := w0) (l := [(a0, v0), (a1, v1)]) (m := [b0, b1, b2, b3]) h p0 u0 hi0 hp0 (by simp [*])) p1 u1 hi1 hp1 (by simp [*])) p2 u2 hi2 hp2 (by simp [*])) p3 u3 hi3 hp3 (by simp [*]))

/-- Matrix number i of a row of matrices. -/
theorem own_mat {w : World} {B n : Nat} {v : Value} {L : List Pl.Cos} (h : w.ownsRow B 97 4 v n (L.flatMap matc)) (hn : n = L.length) :
    ∃ p cap, v = .slice p n cap ∧ ∀ i (hi : i < L.length), ∃ g, p = some ⟨g, 0, none⟩ ∧ g < w.heap.size ∧ w.cell? ⟨g, i * 4, none⟩ = some (.int .i64 L[i].1.1) ∧ w.cell? ⟨g, i * 4 + 1, none⟩ = some (.int .i64 L[i].1.2.1) ∧ w.cell? ⟨g, i * 4 + 2, none⟩ = some (.int .i64 0) ∧ w.cell? ⟨g, i * 4 + 3, none⟩ = some (.int .i64 L[i].1.2.2) := by
  rcases own_shape h with ⟨rfl, rfl, _⟩ | ⟨g, cap, rfl, _, hg, _⟩
  · exact ⟨none, 0, rfl, fun i hi => by omega⟩
  · refine ⟨_, cap, rfl, fun i hi => ⟨g, rfl, hg, ?_, ?_, ?_, ?_⟩⟩
    · exact own_read h (by rw [show i * 4 = i * 4 + 0 from rfl, flat_at matc 4 (fun _ => rfl) L i hi 0 (by omega)]; rfl)
    · exact own_read h (by rw [flat_at matc 4 (fun _ => rfl) L i hi 1 (by omega)]; rfl)
    · exact own_read h (by rw [flat_at matc 4 (fun _ => rfl) L i hi 2 (by omega)]; rfl)
    · exact own_read h (by rw [flat_at matc 4 (fun _ => rfl) L i hi 3 (by omega)]; rfl)
/-- Factor number i of a row of factors. -/
theorem own_fac {w : World} {B n : Nat} {v : Value} {L : List Pl.Cos} (h : w.ownsRow B 3 1 v n (L.flatMap facc)) (hn : n = L.length) :
    ∃ p cap, v = .slice p n cap ∧ ∀ i (hi : i < L.length), ∃ g, p = some ⟨g, 0, none⟩ ∧ g < w.heap.size ∧ w.cell? ⟨g, i, none⟩ = some (.int .i64 L[i].2) := by
  rcases own_shape h with ⟨rfl, rfl, _⟩ | ⟨g, cap, rfl, _, hg, _⟩
  · exact ⟨none, 0, rfl, fun i hi => by omega⟩
  · refine ⟨_, cap, rfl, fun i hi => ⟨g, rfl, hg, ?_⟩⟩
    have h1 := flat_at facc 1 (fun _ => rfl) L i hi 0 (by omega)
    rw [Nat.mul_one, Nat.add_zero] at h1
    exact own_read h (by rw [h1]; rfl)
theorem imEr_cos {N k D n : Int} {len : Nat} {p q p' q' : Int} {L : List Pl.Cos} (h : Pl.cosE N k D n ≠ 0) : imEr N k D n len p q p' q' L = Pl.cosE N k D n := by unfold imEr; rw [if_pos h]
theorem imEr_shape {N k D n : Int} {len : Nat} {p q p' q' : Int} {L : List Pl.Cos} (h : Pl.cosE N k D n = 0) (h2 : (len : Int) ≠ k - 1) : imEr N k D n len p q p' q' L = 4 := by unfold imEr; rw [if_neg (by rw [h]; simp), if_pos h2]
theorem imEr_im {N k D n : Int} {len : Nat} {p q p' q' : Int} {L : List Pl.Cos} (h : Pl.cosE N k D n = 0) (h2 : (len : Int) = k - 1) : imEr N k D n len p q p' q' L = imE p q p' q' L := by unfold imEr; rw [if_neg (by rw [h]; simp), if_neg (by rw [h2]; simp)]
set_option maxHeartbeats 8000000 in
set_option maxRecDepth 100000 in
theorem c_Images (N k D n p q p' q' : Int) (v : Value) (len : Nat) (x y : Nat → Int) (w : World)  (hT : Tab w) (h : QL (fun j => IsR (x j) (y j)) w v len) (hlen : len ≤ 30)
    (hp : -9223372036854775808 ≤ p) (hp' : p ≤ 9223372036854775807) (hbq : -9223372036854775808 ≤ q) (hbq' : q ≤ 9223372036854775807) (hr : -9223372036854775808 ≤ p') (hr' : p' ≤ 9223372036854775807) (hs : -9223372036854775808 ≤ q') (hs' : q' ≤ 9223372036854775807) :
    Calls Tryz.prog 14 #[spec N k D, .int .i64 n, .agg #[v, .int .i64 p, .int .i64 q, .int .i64 p', .int .i64 q']] w fun e w' => (∃ B, w.heap.size ≤ B ∧ RetI w' e B (imEr N k D n len p q p' q' (Pl.cosL (Pl.kroP D) N k D n)) (Pl.cosL (Pl.kroP D) N k D n) (fun i => imF (fun i => Rat.divInt (x i) (y i)) len ((Pl.cosL (Pl.kroP D) N k D n).getD i ((0, 0, 0), 0))) (fun i => imX p q ((Pl.cosL (Pl.kroP D) N k D n).getD i ((0, 0, 0), 0))) (fun i => imX p' q' ((Pl.cosL (Pl.kroP D) N k D n).getD i ((0, 0, 0), 0))) len) ∧ Below w.heap.size w w' := by
  have hql := h
  obtain ⟨vp, vc, rfl⟩ : ∃ p c, v = .slice p len c := by
    rcases h with ⟨rfl, a, c, rfl⟩ | ⟨g, o, c, rfl, _⟩
    · exact ⟨_, _, rfl⟩
    · exact ⟨_, _, rfl⟩
  have HQL := Lib.hid hql
  have HCK := Lib.hid (fun (h : Pl.cosE N k D n = 0) => (Pl.check_ok (Pl.cosE_ok h).1).2.1)
  have HLL := Lib.hid (cosL_ok N k D n)
  have HLN := Lib.hid (cos_len N k D n (Pl.kroP D))
  have HE0 := Lib.hid (fun h => imEr_cos (len := len) (p := p) (q := q) (p' := p') (q' := q') (L := Pl.cosL (Pl.kroP D) N k D n) (N := N) (k := k) (D := D) (n := n) h)
  have HE1 := Lib.hid (fun h => imEr_shape (len := len) (p := p) (q := q) (p' := p') (q' := q') (L := Pl.cosL (Pl.kroP D) N k D n) (N := N) (k := k) (D := D) (n := n) h)
  have HE2 := Lib.hid (fun h => imEr_im (len := len) (p := p) (q := q) (p' := p') (q' := q') (L := Pl.cosL (Pl.kroP D) N k D n) (N := N) (k := k) (D := D) (n := n) h)
  have HCO := Lib.hid (fun w1 (hb : Below w.heap.size w w1) => c_Cosets N k D n w1 (hT.below hb))
  obtain ⟨L, hL⟩ : ∃ L, Pl.cosL (Pl.kroP D) N k D n = L := ⟨_, rfl⟩
  obtain ⟨E, hE⟩ : ∃ E, Pl.cosE N k D n = E := ⟨_, rfl⟩
  obtain ⟨er, her⟩ : ∃ er, imEr N k D n len p q p' q' L = er := ⟨_, rfl⟩
  simp only [hL, hE, her] at HCO HLL HLN HE0 HE1 HE2 HCK ⊢
  obtain ⟨Q, hQ⟩ : ∃ Q : Nat → Rat, (fun i => Rat.divInt (x i) (y i)) = Q := ⟨_, rfl⟩
  have HQS := Lib.hid (fun i (hi : i < len) => show hq (Q i) ≤ 4 by
    rw [← hQ]
    rcases hql with ⟨h1, _⟩ | ⟨_, _, _, _, _, h1⟩
    · omega
    · obtain ⟨_, _, _, _, _, _, _, _, _, _, _, _, h5, h6, h7, h8⟩ := h1 i hi
      exact hq_frac (Nat.le_trans h5.size h7) (Nat.le_trans h6.size h8))
  have HTR := Lib.hid (fun (a b d : Nat) (ch : Int) (hx : CosOk ((a, b, d), ch)) (h0 : 0 < len) (h23 : len ≤ 23) w1 (hb : Below w.heap.size w w1) => c_Translate (.slice vp len vc) len x y p q p' q' a b 0 d w1 (hql.keep (fun j => IsR.solid _ _) hb) h0 h23 (by omega) (by have := hx.1; dsimp only at this; omega) (by omega) (by have := hx.2.1; dsimp only at this; omega) (by omega) (by omega) (by omega) (by have := hx.2.2.1; dsimp only at this; omega) (by rw [Int.mul_zero, Int.sub_zero]; have h1 := hx.1; have h2 := hx.2.2.1; dsimp only at h1 h2; exact Int.mul_ne_zero (by omega) (by omega)) hp hp' hbq hbq' hr hr' hs hs')
  rw [hQ]
  simp only [hQ] at HTR
  obtain ⟨G, hG⟩ : ∃ G : Nat → Pl.Cos, (fun i => L.getD i ((0, 0, 0), 0)) = G := ⟨_, rfl⟩
  have HG := Lib.hid (fun i (hi : i < L.length) => (show L[i] = G i by rw [← hG]; simp [hi]))
  have HGO := Lib.hid (fun i (hi : i < L.length) => (show CosOk (G i) by rw [← HG.out i hi]; exact HLL.out _ (List.getElem_mem hi)))
  have eG : ∀ i, L.getD i ((0, 0, 0), 0) = G i := fun i => congrFun hG i
  simp only [eG]
  have HIA := Lib.hid (fun i (hi : i < L.length) (h0 : ∀ j, j < i → tE (G j) p q p' q' = 0) (h1 : tE (G i) p q p' q' ≠ 0) => (show imE p q p' q' L = tE (G i) p q p' q' by
    rw [← HG.out i hi]
    exact imE_at i hi (fun j hj => by rw [HG.out j (by omega)]; exact h0 j hj) (by rw [HG.out i hi]; exact h1)))
  have HIZ := Lib.hid (fun (h0 : ∀ j, j < L.length → tE (G j) p q p' q' = 0) => (show imE p q p' q' L = 0 from imE_all (fun x hx => by
    obtain ⟨i, hi, rfl⟩ := List.getElem_of_mem hx
    rw [HG.out i hi]; exact h0 i hi)))
  clear h hp hp' hbq hbq' hr hr' hs hs' hql hL hE her hQ eG hG HLL
  go_enter Tryz.func14, Tryz.ntmps14
  go_wp2_with fail
  obtain ⟨w0, hw0⟩ : ∃ w0, (w.alloc (.cells #[.int .i64 N, .int .i64 k, .int .i64 D] 23)).alloc (.cells #[.slice vp len vc, .int .i64 p, .int .i64 q, .int .i64 p', .int .i64 q'] 28) = w0 := ⟨_, rfl⟩
  rw [hw0]
  obtain ⟨X0, X1, hb0⟩ := box2 w #[.int .i64 N, .int .i64 k, .int .i64 D] 23 #[.slice vp len vc, .int .i64 p, .int .i64 q, .int .i64 p', .int .i64 q'] 28
  rw [hw0] at X0 X1 hb0
  have HB0 := Lib.hid hb0
  have HX0 := Lib.hid X0
  have HX1 := Lib.hid X1
  clear hw0 X0 X1 hb0
  refine (HCO.out w0 HB0.out).mono ?_
  rintro e w2 ⟨⟨v1, v2, rfl, ht⟩, hb2⟩
  obtain ⟨lp, lc, rfl, hmat⟩ := own_mat ht.mats rfl
  obtain ⟨fp, fc, rfl, hfac⟩ := own_fac ht.facs rfl
  have HMT := Lib.hid hmat
  have HFC := Lib.hid hfac
  replace HX0 := Lib.hid (HX0.out.below_ hb2 HX0.out.lt)
  replace HX1 := Lib.hid (HX1.out.below_ hb2 HX1.out.lt)
  have HB2 := Lib.hid (HB0.out.trans (hb2.mono HB0.out.size))
  have hs2 : w.heap.size ≤ w2.heap.size := HB2.out.size
  clear ht hb2 hmat hfac HB0 HCO
  by_cases hE0 : E = 0
  · subst hE0
    obtain ⟨ck1, ck2⟩ := HCK.out rfl
    have x1 : w2.cell? ⟨w.heap.size, 1, none⟩ = some (.int .i64 k) := HX0.out.at_ 1 rfl
    have y0 : w2.cell? ⟨w.heap.size + 1, 0, none⟩ = some (.slice vp len vc) := HX1.out.at_ 0 rfl
    obtain ⟨k1, hk1⟩ : ∃ k1 : Nat, k = k1 + 1 := ⟨(k - 1).toNat, by omega⟩
    have hkk : k - 1 = (k1 : Nat) := by omega
    have hkw : IntKind.i64.wrap (k1 : Int) = (k1 : Nat) := IntWalk.i64_in _ (by omega)
    have HK1 := Lib.hid hk1
    clear hk1 HCK HE0
    by_cases hl : len = k1
    · have HER := Lib.hid (HE2.out rfl (by omega))
      have hl0 : 0 < len := by omega
      have hl23 : len ≤ 23 := by omega
      subst hl
      clear HE1 HE2 ck1 ck2
      go_wp2
      go_loopw [11, 36] (fun vo ii wr => ∃ i : Nat, i ≤ L.length ∧ ii = .int .i64 i ∧ OwnP (fun i => imF Q len (G i)) (fun i => imX p q (G i)) (fun i => imX p' q' (G i)) wr w2.heap.size vo i len ∧ (∀ j, j < i → tE (G j) p q p' q' = 0) ∧ Below w2.heap.size w2 wr) (fun _ ii _ => L.length - (intOf ii).toNat)
      case atStart => exact ⟨0, Nat.zero_le _, rfl, OwnP.nil _ _ _ _ _ _, fun j hj => absurd hj (Nat.not_lt_zero _), Below.refl _ _⟩
      case round =>
        obtain ⟨i, hi, rfl, ho, hz, hbr⟩ := hrel
        obtain ⟨wx, rfl⟩ : ∃ wx : World, wx = wr := ⟨_, rfl⟩
        have HO := Lib.hid ho
        have HZ := Lib.hid hz
        have HBR := Lib.hid hbr
        clear ho hz
        by_cases hlt : i < L.length
        · obtain ⟨gl, rfl, hgl, m0, m1, m2, m3⟩ := HMT.out i hlt
          obtain ⟨gf, rfl, hgf, ff0⟩ := HFC.out i hlt
          rw [HG.out i hlt] at m0 m1 m3 ff0
          have hok := HGO.out i hlt
          obtain ⟨⟨⟨a, b, d⟩, ch⟩, hx⟩ : ∃ x, G i = x := ⟨_, rfl⟩
          rw [hx] at m0 m1 m3 ff0 hok
          dsimp only at m0 m1 m3 ff0
          have hT0 := HTR.out a b d ch hok hl0 hl23
          have eF : ∀ j, imF Q len (G i) j = (ch : Rat) * subst Q (len - 1) (d : Nat) (-(b : Nat)) (-0) (a : Nat) len j := fun j => by rw [hx]; rfl
          have eX : (appV (a : Nat) (b : Nat) 0 (d : Nat) p q).1 = imX p q (G i) := by rw [hx]; rfl
          have eY : (appV (a : Nat) (b : Nat) 0 (d : Nat) p' q').1 = imX p' q' (G i) := by rw [hx]; rfl
          have eT : trE (a : Nat) (b : Nat) 0 (d : Nat) p q p' q' = tE (G i) p q p' q' := by rw [hx]; rfl
          have hfs : ∀ j, hq (subst Q (len - 1) (d : Nat) (-(b : Nat)) (-0) (a : Nat) len j) ≤ 4000 := fun j => hq_subst HQS.out (nd64 (by have := hok.2.2.1; dsimp only at this; omega) (by have := hok.2.2.1; dsimp only at this; omega)) (nd64 (by have := hok.2.1; dsimp only at this; omega) (by omega)) (nd64 (by omega) (by omega)) (nd64 (by omega) (by have := hok.1; dsimp only at this; omega)) (by omega) (by omega)
          have hch := hok.2.2.2
          dsimp only at hch
          rw [eX, eY, eT] at hT0
          generalize subst Q (len - 1) (d : Nat) (-(b : Nat)) (-0) (a : Nat) len = fn at hT0 eF hfs
          obtain ⟨te, hte⟩ : ∃ te, tE (G i) p q p' q' = te := ⟨_, rfl⟩
          obtain ⟨⟨x1, y1⟩, hxx⟩ : ∃ z, imX p q (G i) = z := ⟨_, rfl⟩
          obtain ⟨⟨x2, y2⟩, hyy⟩ : ∃ z, imX p' q' (G i) = z := ⟨_, rfl⟩
          rw [hxx, hyy, hte] at hT0
          have HT := Lib.hid hT0
          have HEF := Lib.hid eF
          have HFS := Lib.hid hfs
          have HXX := Lib.hid hxx
          have HYY := Lib.hid hyy
          have HTE := Lib.hid hte
          have HFF := Lib.hid ff0
          have HGF := Lib.hid hgf
          have HCS := Lib.hid (show hq (ch : Rat) ≤ 10 by rw [hq_int]; have := nd64 (a := ch) (by omega) (by omega); omega)
          have c0 : wx.cell? ⟨gl, i * 4, none⟩ = some (.int .i64 a) := (hbr.cell (p := ⟨gl, i * 4, none⟩) hgl).trans m0
          have c1 : wx.cell? ⟨gl, i * 4 + 1, none⟩ = some (.int .i64 b) := (hbr.cell (p := ⟨gl, i * 4 + 1, none⟩) hgl).trans m1
          have c2 : wx.cell? ⟨gl, i * 4 + 2, none⟩ = some (.int .i64 0) := (hbr.cell (p := ⟨gl, i * 4 + 2, none⟩) hgl).trans m2
          have c3 : wx.cell? ⟨gl, i * 4 + 3, none⟩ = some (.int .i64 d) := (hbr.cell (p := ⟨gl, i * 4 + 3, none⟩) hgl).trans m3
          have hii : (i : Int) < (L.length : Int) := by omega
          have HX1W := Lib.hid (HX1.out.below_ hbr HX1.out.lt)
          have HWX := Lib.hid (HB2.out.trans (hbr.mono hs2))
          clear hT0 eF eX eY eT hfs hte hxx hyy hok hx m0 m1 m2 m3 ff0 hgl hgf hbr
          have z0 : ∀ o, (wx.alloc o).cell? ⟨w.heap.size + 1, 0, none⟩ = some (.slice vp len vc) := fun o => (HX1W.out.alloc_ o).at_ 0 rfl
          have z1 : ∀ o, (wx.alloc o).cell? ⟨w.heap.size + 1, 1, none⟩ = some (.int .i64 p) := fun o => (HX1W.out.alloc_ o).at_ 1 rfl
          have z2 : ∀ o, (wx.alloc o).cell? ⟨w.heap.size + 1, 2, none⟩ = some (.int .i64 q) := fun o => (HX1W.out.alloc_ o).at_ 2 rfl
          have z3 : ∀ o, (wx.alloc o).cell? ⟨w.heap.size + 1, 3, none⟩ = some (.int .i64 p') := fun o => (HX1W.out.alloc_ o).at_ 3 rfl
          have z4 : ∀ o, (wx.alloc o).cell? ⟨w.heap.size + 1, 4, none⟩ = some (.int .i64 q') := fun o => (HX1W.out.alloc_ o).at_ 4 rfl
          go_wp2_with fail
          refine (HT.out _ (HWX.out.alloc HWX.out.size _)).mono ?_
          rintro e w3 ⟨hret, hb3⟩
          have hs3 : wx.heap.size < w3.heap.size := Nat.lt_of_lt_of_le (by simp) hb3.size
          have HB3 := Lib.hid (((Below.refl _ wx).alloc (Nat.le_refl _) (.cells #[.int .i64 a, .int .i64 b, .int .i64 0, .int .i64 d] 97)).trans (hb3.mono (by simp)))
          clear z0 z1 z2 z3 z4 c0 c1 c2 c3 HT
          rcases hret with ⟨hte, rfl⟩ | ⟨hte, g, cap, rfl, hg, hrow⟩
          · have HERR := Lib.hid (show er = te by rw [HER.out, HIA.out i hlt HZ.out (by rw [HTE.out]; exact hte), HTE.out])
            clear hb3
            go_wp2
            go_ret2
            exact ⟨⟨w2.heap.size, hs2, .inl ⟨by rw [HERR.out]; exact hte, by rw [HERR.out]; rfl⟩⟩, (HWX.out.trans (HB3.out.mono HWX.out.size)).alloc (Nat.le_trans HWX.out.size (Nat.le_of_lt hs3)) _⟩
          · subst hte
            have hgx : wx.heap.size ≤ g := Nat.le_trans (by simp) hg
            obtain ⟨w4, hw4⟩ : ∃ w4, w3.alloc (.cells #[.slice (some ⟨g, 0, none⟩) len cap, .int .i64 x1, .int .i64 y1, .int .i64 x2, .int .i64 y2] 28) = w4 := ⟨_, rfl⟩
            have hba : Below w3.heap.size w3 w4 := hw4 ▸ (Below.refl _ _).alloc (Nat.le_refl _) _
            have hbx : Blk w4 w3.heap.size 28 #[.slice (some ⟨g, 0, none⟩) len cap, .int .i64 x1, .int .i64 y1, .int .i64 x2, .int .i64 y2] := hw4 ▸ Blk.new w3 _ _
            have HBX := Lib.hid hbx
            have hgs3 : g < w3.heap.size := hrow.sts.1
            have HRW := Lib.hid ((hrow.keep (fun _ => IsQ.solid _) hba).congr (G := fun j => IsQ (mixQ fn (fun k => (ch : Rat) * fn k) 0 j)) (fun j _ => by rw [mixQ_zero]))
            have HB4 := Lib.hid (HB3.out.trans (hba.mono (Nat.le_of_lt hs3)))
            have HFF4 := Lib.hid (show w4.cell? ⟨gf, i, none⟩ = some (.int .i64 ch) from ((HBR.out.trans (HB4.out.mono HBR.out.size)).cell (p := ⟨gf, i, none⟩) HGF.out).trans HFF.out)
            have hgfx : gf < wx.heap.size := Nat.lt_of_lt_of_le HGF.out HBR.out.size
            have q0 : w4.cell? ⟨w3.heap.size, 0, none⟩ = some (.slice (some ⟨g, 0, none⟩) len cap) := HBX.out.at_ 0 rfl
            clear hb3 hg hrow hba hbx HB3
            go_wp2
            clear q0 hw4
            go_loopw [53] (fun jj wz => ∃ j : Nat, j ≤ len ∧ jj = .int .i64 j ∧ QRow (fun k => IsQ (mixQ fn (fun k => (ch : Rat) * fn k) j k)) wz g len len ∧ w4.grownBy wz (some g)) (fun jj _ => len - (intOf jj).toNat)
            case atStart => exact ⟨0, Nat.zero_le _, rfl, HRW.out, but_below g (Below.refl _ _)⟩
            case round =>
              obtain ⟨j, hj, rfl, hrow, hby⟩ := hrel
              obtain ⟨wz, rfl⟩ : ∃ wz : World, wz = wr := ⟨_, rfl⟩
              have HROW := Lib.hid hrow
              have HBY := Lib.hid hby
              have HWZ := Lib.hid (below_but HB4.out hby (Nat.le_trans HB4.out.size (Nat.le_refl _)) hgx)
              have HWW := Lib.hid (HWX.out.trans (HWZ.out.mono HWX.out.size))
              have b0 := hby.cell (HBX.out.at_ 0 rfl) (fun e => by injection e with e; dsimp only at e; omega)
              clear HRW
              by_cases hjn : j < len
              · obtain ⟨s5, p5, n5, c5, t5, q5, m5, d5, e0, e1, e2, e3, hy⟩ := hrow.val j hjn
                have HEE := Lib.hid (show Cells4 wz g (j * 4) s5 p5 n5 c5 t5 q5 m5 d5 from ⟨e0, e1, e2, e3⟩)
                have HEE1 := Lib.hid (show Cells4 wz.drew g (j * 4) s5 p5 n5 c5 t5 q5 m5 d5 from ⟨e0, e1, e2, e3⟩)
                have HYE := Lib.hid (show Qs wz s5 p5 n5 c5 t5 q5 m5 d5 (fn j) by rw [← mixQ_at fn (fun k => (ch : Rat) * fn k) j]; exact hy)
                have ff := hby.cell HFF4.out (fun e => by injection e with e; dsimp only at e; omega)
                have hjj : (j : Int) < (len : Int) := by omega
                have hra := hrow
                have hgw : w.heap.size ≤ g := Nat.le_trans HWX.out.size hgx
                clear hy e0 e1 e2 e3 hrow hby
                go_upto_region 16 with (fail)
                have hS1 : wz.cell? ⟨w3.heap.size, 0, none⟩ = some (.slice (some ⟨g, 0, none⟩) len cap) ∧ wz.cell? ⟨gf, i, none⟩ = some (.int .i64 ch) ∧ wz.cell? ⟨g, j * 4, none⟩ = some (cellOf wz ⟨g, j * 4, none⟩) ∧ wz.frozen? ⟨g, j * 4, none⟩ = false ∧ Sts wz (g) ∧ wz.cell? ⟨g, j * 4 + 1, none⟩ = some (cellOf wz ⟨g, j * 4 + 1, none⟩) ∧ wz.frozen? ⟨g, j * 4 + 1, none⟩ = false ∧ Sts wz (g) ∧ wz.cell? ⟨g, j * 4 + 2, none⟩ = some (cellOf wz ⟨g, j * 4 + 2, none⟩) ∧ wz.frozen? ⟨g, j * 4 + 2, none⟩ = false ∧ Sts wz (g) ∧ wz.cell? ⟨g, j * 4 + 3, none⟩ = some (cellOf wz ⟨g, j * 4 + 3, none⟩) ∧ wz.frozen? ⟨g, j * 4 + 3, none⟩ = false ∧ Sts wz (g) ∧ Below w.heap.size w wz ∧ w.heap.size ≤ wz.heap.size := ⟨b0, ff, cellOf_some (hra.has _ (by omega)), hra.free _ (by omega), hra.sts, cellOf_some (hra.has _ (by omega)), hra.free _ (by omega), hra.sts, cellOf_some (hra.has _ (by omega)), hra.free _ (by omega), hra.sts, cellOf_some (hra.has _ (by omega)), hra.free _ (by omega), hra.sts, HWW.out, Below.size (show Below w.heap.size w wz from HWW.out)⟩
                have hS0 : wz.drew.cell? ⟨w3.heap.size, 0, none⟩ = some (.slice (some ⟨g, 0, none⟩) len cap) ∧ wz.drew.cell? ⟨gf, i, none⟩ = some (.int .i64 ch) ∧ wz.drew.cell? ⟨g, j * 4, none⟩ = some (cellOf wz.drew ⟨g, j * 4, none⟩) ∧ wz.drew.frozen? ⟨g, j * 4, none⟩ = false ∧ Sts wz.drew (g) ∧ wz.drew.cell? ⟨g, j * 4 + 1, none⟩ = some (cellOf wz.drew ⟨g, j * 4 + 1, none⟩) ∧ wz.drew.frozen? ⟨g, j * 4 + 1, none⟩ = false ∧ Sts wz.drew (g) ∧ wz.drew.cell? ⟨g, j * 4 + 2, none⟩ = some (cellOf wz.drew ⟨g, j * 4 + 2, none⟩) ∧ wz.drew.frozen? ⟨g, j * 4 + 2, none⟩ = false ∧ Sts wz.drew (g) ∧ wz.drew.cell? ⟨g, j * 4 + 3, none⟩ = some (cellOf wz.drew ⟨g, j * 4 + 3, none⟩) ∧ wz.drew.frozen? ⟨g, j * 4 + 3, none⟩ = false ∧ Sts wz.drew (g) ∧ Below w.heap.size w wz.drew ∧ w.heap.size ≤ wz.drew.heap.size := S2_4_next (Below.refl _ wz).drew hS1
                clear ff hra hS1
                have M1 : True := trivial
                refine wp_region_held_drew (S := (fun w1 => w1.cell? ⟨w3.heap.size, 0, none⟩ = some (.slice (some ⟨g, 0, none⟩) len cap) ∧ w1.cell? ⟨gf, i, none⟩ = some (.int .i64 ch) ∧ w1.cell? ⟨g, j * 4, none⟩ = some (cellOf w1 ⟨g, j * 4, none⟩) ∧ w1.frozen? ⟨g, j * 4, none⟩ = false ∧ Sts w1 (g) ∧ w1.cell? ⟨g, j * 4 + 1, none⟩ = some (cellOf w1 ⟨g, j * 4 + 1, none⟩) ∧ w1.frozen? ⟨g, j * 4 + 1, none⟩ = false ∧ Sts w1 (g) ∧ w1.cell? ⟨g, j * 4 + 2, none⟩ = some (cellOf w1 ⟨g, j * 4 + 2, none⟩) ∧ w1.frozen? ⟨g, j * 4 + 2, none⟩ = false ∧ Sts w1 (g) ∧ w1.cell? ⟨g, j * 4 + 3, none⟩ = some (cellOf w1 ⟨g, j * 4 + 3, none⟩) ∧ w1.frozen? ⟨g, j * 4 + 3, none⟩ = false ∧ Sts w1 (g) ∧ Below w.heap.size w w1 ∧ w.heap.size ≤ w1.heap.size)) (by kernel_rfl) ?_ (fun hHeld0 => ?_)
                focus ((try dsimp only); (first | with_reducible exact hS0 | with_reducible assumption | (refine S2_4_next (by with_reducible assumption) ?_; assumption) | (refine S2_4_put ?_ ?_ ?_ ?_ ?_ ?_ ?_ ?_ ?_ ?_ ?_ ?_ ?_ ?_ ?_ ?_ ?_ <;> first | assumption | exact NotInt.bool _ | exact NotInt.slice _ _ _ | (dsimp only; omega) | (simp; done))))
                refine wpAnyH_take (i := 0) (v := ?_) rfl (by kernel_rfl) (by kernel_rfl) (by kernel_rfl) (fun _ _ _ h => h) (Or.inl ⟨by rfl, ?_⟩) (by assumption) ?_
                rotate_left
                focus (intro w hSw; (try dsimp only at hSw); go_simp; (try with_reducible rfl))
                focus (try simp only [Act.put, List.setIfInBounds_toArray, List.set_cons_zero, List.set_cons_succ])
                refine wpAnyH_take (i := 1) (v := ?_) rfl (by kernel_rfl) (by kernel_rfl) (by kernel_rfl) (fun _ _ _ h => h) (Or.inl ⟨by rfl, ?_⟩) (by assumption) ?_
                rotate_left
                focus (intro w hSw; (try dsimp only at hSw); go_simp; (try with_reducible rfl))
                focus (try simp only [Act.put, List.setIfInBounds_toArray, List.set_cons_zero, List.set_cons_succ])
                refine wpAnyH_take (i := 2) (v := ?_) rfl (by kernel_rfl) (by kernel_rfl) (by kernel_rfl) (fun _ _ _ h => h) (Or.inl ⟨by rfl, ?_⟩) (by assumption) ?_
                rotate_left
                focus (intro w hSw; (try dsimp only at hSw); go_simp; (try with_reducible rfl))
                focus (try simp only [Act.put, List.setIfInBounds_toArray, List.set_cons_zero, List.set_cons_succ])
                refine wpAnyH_take (i := 3) (v := ?_) rfl (by kernel_rfl) (by kernel_rfl) (by kernel_rfl) (fun _ _ _ h => h) (Or.inl ⟨by rfl, ?_⟩) (by assumption) ?_
                rotate_left
                focus (intro w hSw; (try dsimp only at hSw); go_simp; (try with_reducible rfl))
                focus (try simp only [Act.put, List.setIfInBounds_toArray, List.set_cons_zero, List.set_cons_succ])
                refine wpAnyH_take (i := 4) (v := ?_) rfl (by kernel_rfl) (by kernel_rfl) (by kernel_rfl) (fun _ _ _ h => h) (Or.inl ⟨by rfl, ?_⟩) (by assumption) ?_
                rotate_left
                focus (intro w hSw; (try dsimp only at hSw); go_simp; (try with_reducible rfl))
                focus (try simp only [Act.put, List.setIfInBounds_toArray, List.set_cons_zero, List.set_cons_succ])
                refine wpAnyH_take (i := 5) (v := ?_) rfl (by kernel_rfl) (by kernel_rfl) (by kernel_rfl) (fun _ _ _ h => h) (Or.inl ⟨by rfl, ?_⟩) (by assumption) ?_
                rotate_left
                focus (intro w hSw; (try dsimp only at hSw); go_simp; (try with_reducible rfl))
                focus (try simp only [Act.put, List.setIfInBounds_toArray, List.set_cons_zero, List.set_cons_succ])
                refine wpAnyH_take (i := 6) (v := ?_) rfl (by kernel_rfl) (by kernel_rfl) (by kernel_rfl) (fun _ _ _ h => h) (Or.inl ⟨by rfl, ?_⟩) (by assumption) ?_
                rotate_left
                focus (intro w hSw; (try dsimp only at hSw); go_simp; (try with_reducible rfl))
                focus (try simp only [Act.put, List.setIfInBounds_toArray, List.set_cons_zero, List.set_cons_succ])
                refine wpAnyH_take (i := 8) (v := ?_) rfl (by kernel_rfl) (by kernel_rfl) (by kernel_rfl) (fun _ _ _ h => h) (Or.inl ⟨by rfl, ?_⟩) (by assumption) ?_
                rotate_left
                focus (intro w hSw; (try dsimp only at hSw); go_simp; (try with_reducible rfl))
                focus (try simp only [Act.put, List.setIfInBounds_toArray, List.set_cons_zero, List.set_cons_succ])
                refine wpAnyH_take (i := 9) (v := ?_) rfl (by kernel_rfl) (by kernel_rfl) (by kernel_rfl) (fun _ _ _ h => h) (Or.inl ⟨by rfl, ?_⟩) (by assumption) ?_
                rotate_left
                focus (intro w hSw; (try dsimp only at hSw); go_simp; (try with_reducible rfl))
                focus (try simp only [Act.put, List.setIfInBounds_toArray, List.set_cons_zero, List.set_cons_succ])
                refine wpAnyH_take (i := 10) (v := ?_) rfl (by kernel_rfl) (by kernel_rfl) (by kernel_rfl) (fun _ _ _ h => h) (Or.inl ⟨by rfl, ?_⟩) (by assumption) ?_
                rotate_left
                focus (intro w hSw; (try dsimp only at hSw); go_simp; (try with_reducible rfl))
                focus (try simp only [Act.put, List.setIfInBounds_toArray, List.set_cons_zero, List.set_cons_succ])
                refine wpAnyH_take (i := 11) (v := ?_) rfl (by kernel_rfl) (by kernel_rfl) (by kernel_rfl) (fun _ _ _ h => h) (Or.inl ⟨by rfl, ?_⟩) (by assumption) ?_
                rotate_left
                focus (intro w hSw; (try dsimp only at hSw); go_simp; (try with_reducible rfl))
                focus (try simp only [Act.put, List.setIfInBounds_toArray, List.set_cons_zero, List.set_cons_succ])
                refine wpAnyH_ready (rs := [7, 12]) (by kernel_rfl) (by simp) ?_
                refine AllReadyH.cons rfl (fun K hK => ?_) ?_
                focus (go_simp; (first | (go_at_call 49; refine (c_qOf ch _ (by omega) (by omega)).mono ?_; rintro e w5 ⟨⟨s3, p3, n3, c3, t3, q3, m3, d3, rfl, hz3⟩, hb5⟩; have HB5 := Lib.hid (show Below wz.heap.size wz w5 from (by first | exact (Below.refl _ wz).drew.trans hb5 | exact hb5)); have HZ5 := Lib.hid hz3; have HEE2 := Lib.hid (HEE.out.keep HB5.out); clear hz3) | (go_at_call 38; (first | rw [cellOf_eq HEE1.out.1, cellOf_eq HEE1.out.2.1, cellOf_eq HEE1.out.2.2.1, cellOf_eq HEE1.out.2.2.2] | rw [cellOf_eq HEE2.out.1, cellOf_eq HEE2.out.2.1, cellOf_eq HEE2.out.2.2.1, cellOf_eq HEE2.out.2.2.2]); refine (c_qMulQ s3 p3 n3 c3 t3 q3 m3 d3 (ch : Rat) s5 p5 n5 c5 t5 q5 m5 d5 (fn j) _ HZ5.out (HYE.out.keep HB5.out) (by have := HCS.out; omega) (by have := HFS.out j; omega)).mono ?_; rintro e w6 ⟨⟨s6, p6, n6, c6, t6, q6, m6, d6, rfl, hz6⟩, hb6⟩; have hbe : Below wz.heap.size wz w6 := HB5.out.trans (hb6.mono HB5.out.size); have HQA3 := Lib.hid (mixQ_put (f' := fun k => (ch : Rat) * fn k) (HROW.out.keep (fun _ => IsQ.solid _) hbe) hjn hz6); have HGR := Lib.hid (HBY.out.trans (but_below g hbe)); clear hz6 hbe hb5)); (first | done | with_reducible refine hK.out _ _ ?_ (fun hHeld1 => ?_) | (go_wp2_with fail; with_reducible refine hK.out _ _ ?_ (fun hHeld1 => ?_))))
                focus ((try dsimp only); (first | with_reducible exact hS0 | with_reducible assumption | (refine S2_4_next (by with_reducible assumption) ?_; assumption) | (refine S2_4_put ?_ ?_ ?_ ?_ ?_ ?_ ?_ ?_ ?_ ?_ ?_ ?_ ?_ ?_ ?_ ?_ ?_ <;> first | assumption | exact NotInt.bool _ | exact NotInt.slice _ _ _ | (dsimp only; omega) | (simp; done))))
                focus (clear hK K hHeld0; (try simp only [Act.put, List.setIfInBounds_toArray, List.set_cons_zero, List.set_cons_succ]))
                refine wpAnyH_ready (rs := [12]) (by kernel_rfl) (by simp) ?_
                refine AllReadyH.cons rfl (fun K hK => ?_) ?_
                focus (go_simp; refine hK.out _ _ ?_ (fun hHeld2 => ?_))
                focus ((try dsimp only); (first | with_reducible exact hS0 | with_reducible assumption | (refine S2_4_next (by with_reducible assumption) ?_; assumption) | (refine S2_4_put ?_ ?_ ?_ ?_ ?_ ?_ ?_ ?_ ?_ ?_ ?_ ?_ ?_ ?_ ?_ ?_ ?_ <;> first | assumption | exact NotInt.bool _ | exact NotInt.slice _ _ _ | (dsimp only; omega) | (simp; done))))
                focus (clear hK K hHeld1; (try simp only [Act.put, List.setIfInBounds_toArray, List.set_cons_zero, List.set_cons_succ]))
                refine wpAnyH_ready (rs := [13]) (by kernel_rfl) (by simp) ?_
                refine AllReadyH.cons rfl (fun K hK => ?_) ?_
                focus (go_simp; (first | (go_at_call 49; refine (c_qOf ch _ (by omega) (by omega)).mono ?_; rintro e w5 ⟨⟨s3, p3, n3, c3, t3, q3, m3, d3, rfl, hz3⟩, hb5⟩; have HB5 := Lib.hid (show Below wz.heap.size wz w5 from (by first | exact (Below.refl _ wz).drew.trans hb5 | exact hb5)); have HZ5 := Lib.hid hz3; have HEE2 := Lib.hid (HEE.out.keep HB5.out); clear hz3) | (go_at_call 38; (first | rw [cellOf_eq HEE1.out.1, cellOf_eq HEE1.out.2.1, cellOf_eq HEE1.out.2.2.1, cellOf_eq HEE1.out.2.2.2] | rw [cellOf_eq HEE2.out.1, cellOf_eq HEE2.out.2.1, cellOf_eq HEE2.out.2.2.1, cellOf_eq HEE2.out.2.2.2]); refine (c_qMulQ s3 p3 n3 c3 t3 q3 m3 d3 (ch : Rat) s5 p5 n5 c5 t5 q5 m5 d5 (fn j) _ HZ5.out (HYE.out.keep HB5.out) (by have := HCS.out; omega) (by have := HFS.out j; omega)).mono ?_; rintro e w6 ⟨⟨s6, p6, n6, c6, t6, q6, m6, d6, rfl, hz6⟩, hb6⟩; have hbe : Below wz.heap.size wz w6 := HB5.out.trans (hb6.mono HB5.out.size); have HQA3 := Lib.hid (mixQ_put (f' := fun k => (ch : Rat) * fn k) (HROW.out.keep (fun _ => IsQ.solid _) hbe) hjn hz6); have HGR := Lib.hid (HBY.out.trans (but_below g hbe)); clear hz6 hbe hb5)); (first | done | with_reducible refine hK.out _ _ ?_ (fun hHeld3 => ?_) | (go_wp2_with fail; with_reducible refine hK.out _ _ ?_ (fun hHeld3 => ?_))))
                focus ((try dsimp only); (first | with_reducible exact hS0 | with_reducible assumption | (refine S2_4_next (by with_reducible assumption) ?_; assumption) | (refine S2_4_put ?_ ?_ ?_ ?_ ?_ ?_ ?_ ?_ ?_ ?_ ?_ ?_ ?_ ?_ ?_ ?_ ?_ <;> first | assumption | exact NotInt.bool _ | exact NotInt.slice _ _ _ | (dsimp only; omega) | (simp; done))))
                focus (clear hK K hHeld2; (try simp only [Act.put, List.setIfInBounds_toArray, List.set_cons_zero, List.set_cons_succ]))
                refine wpAnyH_take (i := 14) (v := ?_) rfl (by kernel_rfl) (by kernel_rfl) (by kernel_rfl) (fun _ _ _ h => h) (Or.inl ⟨by rfl, ?_⟩) (by assumption) ?_
                rotate_left
                focus (intro w hSw; (try dsimp only at hSw); go_simp; (try with_reducible rfl))
                focus (try simp only [Act.put, List.setIfInBounds_toArray, List.set_cons_zero, List.set_cons_succ])
                refine wpAnyH_ready (rs := [15]) (by kernel_rfl) (by simp) ?_
                refine AllReadyH.cons rfl (fun K hK => ?_) ?_
                focus (go_simp; refine hK.out _ _ ?_ (fun hHeld4 => ?_))
                focus ((try dsimp only); (first | with_reducible exact hS0 | with_reducible assumption | (refine S2_4_next (by with_reducible assumption) ?_; assumption) | (refine S2_4_put ?_ ?_ ?_ ?_ ?_ ?_ ?_ ?_ ?_ ?_ ?_ ?_ ?_ ?_ ?_ ?_ ?_ <;> first | assumption | exact NotInt.bool _ | exact NotInt.slice _ _ _ | (dsimp only; omega) | (simp; done))))
                focus (clear hK K hHeld3; (try simp only [Act.put, List.setIfInBounds_toArray, List.set_cons_zero, List.set_cons_succ]))
                focus (refine wpAnyH_done (by kernel_rfl) ?_ _)
                rotate_left
                exact AllReadyH.nil
                exact AllReadyH.nil
                exact AllReadyH.nil
                refine AllReadyH.cons rfl (fun K hK => ?_) ?_
                focus (go_simp; refine hK.out _ _ ?_ (fun hHeld1 => ?_))
                focus ((try dsimp only); (first | with_reducible exact hS0 | with_reducible assumption | (refine S2_4_next (by with_reducible assumption) ?_; assumption) | (refine S2_4_put ?_ ?_ ?_ ?_ ?_ ?_ ?_ ?_ ?_ ?_ ?_ ?_ ?_ ?_ ?_ ?_ ?_ <;> first | assumption | exact NotInt.bool _ | exact NotInt.slice _ _ _ | (dsimp only; omega) | (simp; done))))
                focus (clear hK K hHeld0; (try simp only [Act.put, List.setIfInBounds_toArray, List.set_cons_zero, List.set_cons_succ]))
                refine wpAnyH_ready (rs := [7]) (by kernel_rfl) (by simp) ?_
                refine AllReadyH.cons rfl (fun K hK => ?_) ?_
                focus (go_simp; (first | (go_at_call 49; refine (c_qOf ch _ (by omega) (by omega)).mono ?_; rintro e w5 ⟨⟨s3, p3, n3, c3, t3, q3, m3, d3, rfl, hz3⟩, hb5⟩; have HB5 := Lib.hid (show Below wz.heap.size wz w5 from (by first | exact (Below.refl _ wz).drew.trans hb5 | exact hb5)); have HZ5 := Lib.hid hz3; have HEE2 := Lib.hid (HEE.out.keep HB5.out); clear hz3) | (go_at_call 38; (first | rw [cellOf_eq HEE1.out.1, cellOf_eq HEE1.out.2.1, cellOf_eq HEE1.out.2.2.1, cellOf_eq HEE1.out.2.2.2] | rw [cellOf_eq HEE2.out.1, cellOf_eq HEE2.out.2.1, cellOf_eq HEE2.out.2.2.1, cellOf_eq HEE2.out.2.2.2]); refine (c_qMulQ s3 p3 n3 c3 t3 q3 m3 d3 (ch : Rat) s5 p5 n5 c5 t5 q5 m5 d5 (fn j) _ HZ5.out (HYE.out.keep HB5.out) (by have := HCS.out; omega) (by have := HFS.out j; omega)).mono ?_; rintro e w6 ⟨⟨s6, p6, n6, c6, t6, q6, m6, d6, rfl, hz6⟩, hb6⟩; have hbe : Below wz.heap.size wz w6 := HB5.out.trans (hb6.mono HB5.out.size); have HQA3 := Lib.hid (mixQ_put (f' := fun k => (ch : Rat) * fn k) (HROW.out.keep (fun _ => IsQ.solid _) hbe) hjn hz6); have HGR := Lib.hid (HBY.out.trans (but_below g hbe)); clear hz6 hbe hb5)); (first | done | with_reducible refine hK.out _ _ ?_ (fun hHeld2 => ?_) | (go_wp2_with fail; with_reducible refine hK.out _ _ ?_ (fun hHeld2 => ?_))))
                focus ((try dsimp only); (first | with_reducible exact hS0 | with_reducible assumption | (refine S2_4_next (by with_reducible assumption) ?_; assumption) | (refine S2_4_put ?_ ?_ ?_ ?_ ?_ ?_ ?_ ?_ ?_ ?_ ?_ ?_ ?_ ?_ ?_ ?_ ?_ <;> first | assumption | exact NotInt.bool _ | exact NotInt.slice _ _ _ | (dsimp only; omega) | (simp; done))))
                focus (clear hK K hHeld1; (try simp only [Act.put, List.setIfInBounds_toArray, List.set_cons_zero, List.set_cons_succ]))
                refine wpAnyH_ready (rs := [13]) (by kernel_rfl) (by simp) ?_
                refine AllReadyH.cons rfl (fun K hK => ?_) ?_
                focus (go_simp; (first | (go_at_call 49; refine (c_qOf ch _ (by omega) (by omega)).mono ?_; rintro e w5 ⟨⟨s3, p3, n3, c3, t3, q3, m3, d3, rfl, hz3⟩, hb5⟩; have HB5 := Lib.hid (show Below wz.heap.size wz w5 from (by first | exact (Below.refl _ wz).drew.trans hb5 | exact hb5)); have HZ5 := Lib.hid hz3; have HEE2 := Lib.hid (HEE.out.keep HB5.out); clear hz3) | (go_at_call 38; (first | rw [cellOf_eq HEE1.out.1, cellOf_eq HEE1.out.2.1, cellOf_eq HEE1.out.2.2.1, cellOf_eq HEE1.out.2.2.2] | rw [cellOf_eq HEE2.out.1, cellOf_eq HEE2.out.2.1, cellOf_eq HEE2.out.2.2.1, cellOf_eq HEE2.out.2.2.2]); refine (c_qMulQ s3 p3 n3 c3 t3 q3 m3 d3 (ch : Rat) s5 p5 n5 c5 t5 q5 m5 d5 (fn j) _ HZ5.out (HYE.out.keep HB5.out) (by have := HCS.out; omega) (by have := HFS.out j; omega)).mono ?_; rintro e w6 ⟨⟨s6, p6, n6, c6, t6, q6, m6, d6, rfl, hz6⟩, hb6⟩; have hbe : Below wz.heap.size wz w6 := HB5.out.trans (hb6.mono HB5.out.size); have HQA3 := Lib.hid (mixQ_put (f' := fun k => (ch : Rat) * fn k) (HROW.out.keep (fun _ => IsQ.solid _) hbe) hjn hz6); have HGR := Lib.hid (HBY.out.trans (but_below g hbe)); clear hz6 hbe hb5)); (first | done | with_reducible refine hK.out _ _ ?_ (fun hHeld3 => ?_) | (go_wp2_with fail; with_reducible refine hK.out _ _ ?_ (fun hHeld3 => ?_))))
                focus ((try dsimp only); (first | with_reducible exact hS0 | with_reducible assumption | (refine S2_4_next (by with_reducible assumption) ?_; assumption) | (refine S2_4_put ?_ ?_ ?_ ?_ ?_ ?_ ?_ ?_ ?_ ?_ ?_ ?_ ?_ ?_ ?_ ?_ ?_ <;> first | assumption | exact NotInt.bool _ | exact NotInt.slice _ _ _ | (dsimp only; omega) | (simp; done))))
                focus (clear hK K hHeld2; (try simp only [Act.put, List.setIfInBounds_toArray, List.set_cons_zero, List.set_cons_succ]))
                refine wpAnyH_take (i := 14) (v := ?_) rfl (by kernel_rfl) (by kernel_rfl) (by kernel_rfl) (fun _ _ _ h => h) (Or.inl ⟨by rfl, ?_⟩) (by assumption) ?_
                rotate_left
                focus (intro w hSw; (try dsimp only at hSw); go_simp; (try with_reducible rfl))
                focus (try simp only [Act.put, List.setIfInBounds_toArray, List.set_cons_zero, List.set_cons_succ])
                refine wpAnyH_ready (rs := [15]) (by kernel_rfl) (by simp) ?_
                refine AllReadyH.cons rfl (fun K hK => ?_) ?_
                focus (go_simp; refine hK.out _ _ ?_ (fun hHeld4 => ?_))
                focus ((try dsimp only); (first | with_reducible exact hS0 | with_reducible assumption | (refine S2_4_next (by with_reducible assumption) ?_; assumption) | (refine S2_4_put ?_ ?_ ?_ ?_ ?_ ?_ ?_ ?_ ?_ ?_ ?_ ?_ ?_ ?_ ?_ ?_ ?_ <;> first | assumption | exact NotInt.bool _ | exact NotInt.slice _ _ _ | (dsimp only; omega) | (simp; done))))
                focus (clear hK K hHeld3; (try simp only [Act.put, List.setIfInBounds_toArray, List.set_cons_zero, List.set_cons_succ]))
                focus (refine wpAnyH_done (by kernel_rfl) ?_ _)
                rotate_left
                exact AllReadyH.nil
                exact AllReadyH.nil
                exact AllReadyH.nil
                exact AllReadyH.nil
                all_goals go_wp2
                all_goals go_roundw
                all_goals first
                  | exact ⟨j + 1, by omega, by go_num, HQA3.out, HGR.out.trans (but_put4 _ _ _ _ _ _ _ _ _ _)⟩
                  | (simp [intOf]; omega)
              · obtain rfl : len = j := by omega
                have b1 := hby.cell (HBX.out.at_ 1 rfl) (fun e => by injection e with e; dsimp only at e; omega)
                have b2 := hby.cell (HBX.out.at_ 2 rfl) (fun e => by injection e with e; dsimp only at e; omega)
                have b3 := hby.cell (HBX.out.at_ 3 rfl) (fun e => by injection e with e; dsimp only at e; omega)
                have b4 := hby.cell (HBX.out.at_ 4 rfl) (fun e => by injection e with e; dsimp only at e; omega)
                have HRN := Lib.hid (hrow.congr (G := fun j => IsQ (imF Q len (G i) j)) (fun j hj => by rw [mixQ_all hj, HEF.out]))
                obtain ⟨hvo, xs, hK, hXs⟩ := HO.out.keep HWZ.out
                have HK := Lib.hid hK
                have HXS := Lib.hid hXs
                have HVO := Lib.hid hvo
                have HB2W := Lib.hid (HBR.out.trans (HWZ.out.mono HBR.out.size))
                have hLN := HLN.out
                clear hrow hby HROW hvo hK hXs
                go_wp2_with (at_builtin; refine wpl_app2 NotU32 rfl (.tmp 72) (.tmp 74) _ 28 rfl Tryz.underlying37 pathInfo rfl (by decide) w2.heap.size i u11 xs [.slice (some ⟨g, 0, none⟩) len cap, .int .i64 x1, .int .i64 y1, .int .i64 x2, .int .i64 y2] rfl HK.out rfl rfl (one5 _ _ _ _ _ _ _) (by omega) (by omega) HB2W.out.size (nu5 _ _ _ _ _ _ _) nuz ?_; intro v' w' hown' hgr hat; have HO2 := Lib.hid (OwnP.push (F := fun i => imF Q len (G i)) (X := fun i => imX p q (G i)) (Y := fun i => imX p' q' (G i)) HVO.out HK.out HXS.out HRN.out HXX.out HYY.out hown' hgr); have HBN := Lib.hid (own_below HB2W.out HK.out.1 hgr (Nat.le_refl _) HB2W.out.size); clear hown' hgr hat)
                go_roundw
                case rel => exact ⟨i + 1, by omega, by go_num, HO2.out, fun j hj => by
                  by_cases h : j < i
                  · exact HZ.out j h
                  · obtain rfl : j = i := by omega
                    exact HTE.out, HBN.out⟩
                case measure => simp [intOf]; omega
        · obtain rfl : L.length = i := by omega
          have HERR := Lib.hid (show er = 0 by rw [HER.out, HIZ.out HZ.out])
          clear hbr
          go_wp2
          go_ret2
          exact ⟨⟨w2.heap.size, hs2, .inr ⟨HERR.out, _, rfl, HO.out⟩⟩, HB2.out.trans (HBR.out.mono hs2)⟩
    · have HER := Lib.hid (HE1.out rfl (by omega))
      have hln : ((len : Int) != (k1 : Int)) = true := by simp; omega
      clear HE1 HE2 ck1 ck2
      go_wp2
      go_ret2
      exact ⟨⟨w.heap.size, Nat.le_refl _, .inl ⟨by rw [HER.out]; decide, by rw [HER.out]; rfl⟩⟩, HB2.out⟩
  · have HER := Lib.hid (HE0.out hE0)
    clear HE0 HE1 HE2 HCK
    go_wp2
    go_ret2
    exact ⟨⟨w.heap.size, Nat.le_refl _, .inl ⟨by rw [HER.out]; exact hE0, by rw [HER.out]; rfl⟩⟩, HB2.out⟩
end Go.Proofs.YthikonjlgljikaaGreatDoor
