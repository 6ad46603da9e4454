/- Contract of halfplaneref46.Images. -/
import Derived.Test.YthikonjlgljikaaGreatDoorIm438
namespace Go.Proofs.YthikonjlgljikaaGreatDoor
set_option linter.unusedSimpArgs false
open Go.RowKit

theorem T9_0_next {B : Nat} {w0 w w' : World} {a0 a1 a2 a3 a4 a5 a6 a7 a8 : Addr} {v0 v1 v2 v3 v4 v5 v6 v7 v8 : Value} (hb : Below w.heap.size w w') (h : w.cell? a0 = some v0 ∧ w.cell? a1 = some v1 ∧ w.cell? a2 = some v2 ∧ w.cell? a3 = some v3 ∧ w.cell? a4 = some v4 ∧ w.cell? a5 = some v5 ∧ w.cell? a6 = some v6 ∧ w.cell? a7 = some v7 ∧ w.cell? a8 = some v8 ∧ Below B w0 w ∧ B ≤ w.heap.size) : w'.cell? a0 = some v0 ∧ w'.cell? a1 = some v1 ∧ w'.cell? a2 = some v2 ∧ w'.cell? a3 = some v3 ∧ w'.cell? a4 = some v4 ∧ w'.cell? a5 = some v5 ∧ w'.cell? a6 = some v6 ∧ w'.cell? a7 = some v7 ∧ w'.cell? a8 = some v8 ∧ Below B w0 w' ∧ B ≤ w'.heap.size := TT.next (B := B) (w0 := w0) (l := [(a0, v0), (a1, v1), (a2, v2), (a3, v3), (a4, v4), (a5, v5), (a6, v6), (a7, v7), (a8, v8)]) (m := []) hb h
theorem T9_0_below {B : Nat} {w0 w : World} {a0 a1 a2 a3 a4 a5 a6 a7 a8 : Addr} {v0 v1 v2 v3 v4 v5 v6 v7 v8 : Value} (h : w.cell? a0 = some v0 ∧ w.cell? a1 = some v1 ∧ w.cell? a2 = some v2 ∧ w.cell? a3 = some v3 ∧ w.cell? a4 = some v4 ∧ w.cell? a5 = some v5 ∧ w.cell? a6 = some v6 ∧ w.cell? a7 = some v7 ∧ w.cell? a8 = some v8 ∧ Below B w0 w ∧ B ≤ w.heap.size) : Below B w0 w := TT.below (B := B) (w0 := w0) (l := [(a0, v0), (a1, v1), (a2, v2), (a3, v3), (a4, v4), (a5, v5), (a6, v6), (a7, v7), (a8, v8)]) (m := []) h

theorem pfr1 {W w' : World} {g : Nat} (hg : W.heap.size = g) (hb : Below (W.alloc (.cells #[.slice none 0 0, .int .i64 0, .int .i64 0, .int .i64 0, .int .i64 0] 28)).heap.size (W.alloc (.cells #[.slice none 0 0, .int .i64 0, .int .i64 0, .int .i64 0, .int .i64 0] 28)) w') : w'.cell? ⟨g, 0, none⟩ = some (.slice none 0 0) ∧ w'.cell? ⟨g, 1, none⟩ = some (.int .i64 0) ∧ w'.cell? ⟨g, 2, none⟩ = some (.int .i64 0) ∧ w'.cell? ⟨g, 3, none⟩ = some (.int .i64 0) ∧ w'.cell? ⟨g, 4, none⟩ = some (.int .i64 0) ∧ w'.frozen? ⟨g, 0, none⟩ = false ∧ w'.frozen? ⟨g, 1, none⟩ = false ∧ w'.frozen? ⟨g, 2, none⟩ = false ∧ w'.frozen? ⟨g, 3, none⟩ = false ∧ w'.frozen? ⟨g, 4, none⟩ = false ∧ Blk w' g 28 #[.slice none 0 0, .int .i64 0, .int .i64 0, .int .i64 0, .int .i64 0] := by
  subst hg
  have h := (Blk.new W 28 #[.slice none 0 0, .int .i64 0, .int .i64 0, .int .i64 0, .int .i64 0]).below_ hb (by simp)
  exact ⟨h.at_ 0 rfl, h.at_ 1 rfl, h.at_ 2 rfl, h.at_ 3 rfl, h.at_ 4 rfl, h.free_ 0, h.free_ 1, h.free_ 2, h.free_ 3, h.free_ 4, h⟩
theorem pset {w : World} {g : Nat} (h : Blk w g 28 #[.slice none 0 0, .int .i64 0, .int .i64 0, .int .i64 0, .int .i64 0]) (v0 v1 v2 v3 v4 : Value) : Blk (((((w.setCell ⟨g, 0, none⟩ v0).setCell ⟨g, 1, none⟩ v1).setCell ⟨g, 2, none⟩ v2).setCell ⟨g, 3, none⟩ v3).setCell ⟨g, 4, none⟩ v4) g 28 #[v0, v1, v2, v3, v4] :=
  ((((h.set_ 0 v0).set_ 1 v1).set_ 2 v2).set_ 3 v3).set_ 4 v4
theorem pstk {w : World} {g : Nat} (h : Blk w g 28 #[.slice none 0 0, .int .i64 0, .int .i64 0, .int .i64 0, .int .i64 0]) : Stk NotU32 w g := Stk.of h (by intro v hv; simp at hv; rcases hv with rfl | rfl <;> exact fun _ h => by cases h)
theorem pbelow {B : Nat} {b w : World} {g : Nat} (h : Below B b w) (h1 : B ≤ g) (v0 v1 v2 v3 v4 : Value) : Below B b (((((w.setCell ⟨g, 0, none⟩ v0).setCell ⟨g, 1, none⟩ v1).setCell ⟨g, 2, none⟩ v2).setCell ⟨g, 3, none⟩ v3).setCell ⟨g, 4, none⟩ v4) :=
  ((((h.setCell (p := ⟨g, 0, none⟩) h1 v0).setCell (p := ⟨g, 1, none⟩) h1 v1).setCell (p := ⟨g, 2, none⟩) h1 v2).setCell (p := ⟨g, 3, none⟩) h1 v3).setCell (p := ⟨g, 4, none⟩) h1 v4
/-- The row behind the store of a path into a variable. -/
theorem prow {f : Nat → Rat} {w : World} {g gb n : Nat} (h : QRow (fun j => IsQ (f j)) w g n n) (hb : Blk w gb 28 #[.slice none 0 0, .int .i64 0, .int .i64 0, .int .i64 0, .int .i64 0]) (hne : g ≠ gb) (p : Option Addr) (m c : Nat) (i j k l : Int) :
    QRow (fun j => IsQ (f j)) (((((w.setCell ⟨gb, 0, none⟩ (.slice p m c)).setCell ⟨gb, 1, none⟩ (.int .i64 i)).setCell ⟨gb, 2, none⟩ (.int .i64 j)).setCell ⟨gb, 3, none⟩ (.int .i64 k)).setCell ⟨gb, 4, none⟩ (.int .i64 l)) g n n :=
  h.i32 (fun _ => IsQ.solid _) (I32.path (pstk hb) p m c i j k l) (but_put5 _ _ _ _ _ _ _) hne
theorem c_sMulQ (s : Bool) (p : Option Addr) (n c : Nat) (t : Bool) (q : Option Addr) (m d : Nat) (x : Rat) (s' : Bool) (p' : Option Addr) (n' c' : Nat) (t' : Bool) (q' : Option Addr) (m' d' : Nat) (y : Rat) (w : World) (h : Qs w s p n c t q m d x) (h' : Qs w s' p' n' c' t' q' m' d' y) (hx : hq x ≤ 1000000000) (hy : hq y ≤ 1000000000) :
    Calls Tryz.prog 52 #[.agg #[.bool s, .slice p n c, .bool t, .slice q m d], .agg #[.bool s', .slice p' n' c', .bool t', .slice q' m' d']] w fun e w' => RetQ w' e (x * y) ∧ Below w.heap.size w w' := by
  have h1 := c_sMul s p n c x.num t q m d x.den s' p' n' c' y.num t' q' m' d' y.den w h.1.raw h.2.raw h'.1.raw h'.2.raw (by have := h.sizes; omega) (by have := h.sizes; omega) (by have := h'.sizes; omega) (by have := h'.sizes; omega)
  rw [rat_self, rat_self] at h1
  exact h1
set_option maxHeartbeats 8000000 in
set_option maxRecDepth 100000 in
theorem c_Images46 (N k D n p q p' q' : Int) (v : Value) (len : Nat) (x y : Nat → Int) (w : World) (h : QL (fun j => IsR (x j) (y j)) w v len) (hlen : len ≤ 30)
    (hp : -9223372036854775808 ≤ p) (hp' : p ≤ 9223372036854775807) (hbq : -9223372036854775808 ≤ q) (hbq' : q ≤ 9223372036854775807) (hr : -9223372036854775808 ≤ p') (hr' : p' ≤ 9223372036854775807) (hs : -9223372036854775808 ≤ q') (hs' : q' ≤ 9223372036854775807) :
    Calls Tryz.prog 15 #[spec N k D, .int .i64 n, .agg #[v, .int .i64 p, .int .i64 q, .int .i64 p', .int .i64 q']] w fun e w' => (∃ B, w.heap.size ≤ B ∧ RetI w' e B (imEr N k D n len p q p' q' (Pl.cosL (Pl.kroP D) N k D n)) (Pl.cosL (Pl.kroP D) N k D n) (fun i => imF (fun i => Rat.divInt (x i) (y i)) len ((Pl.cosL (Pl.kroP D) N k D n).getD i ((0, 0, 0), 0))) (fun i => imX p q ((Pl.cosL (Pl.kroP D) N k D n).getD i ((0, 0, 0), 0))) (fun i => imX p' q' ((Pl.cosL (Pl.kroP D) N k D n).getD i ((0, 0, 0), 0))) len) ∧ Below w.heap.size w w' := by
  have hql := h
  obtain ⟨vp, vc, rfl⟩ : ∃ p c, v = .slice p len c := by
    rcases h with ⟨rfl, a, c, rfl⟩ | ⟨g, o, c, rfl, _⟩
    · exact ⟨_, _, rfl⟩
    · exact ⟨_, _, rfl⟩
  have HQL := Lib.hid hql
  have HCK := Lib.hid (fun (h : Pl.cosE N k D n = 0) => (Pl.check_ok (Pl.cosE_ok h).1).2.1)
  have HLL := Lib.hid (cosL_ok N k D n)
  have HLN := Lib.hid (cos_len N k D n (Pl.kroP D))
  have HE0 := Lib.hid (fun h => imEr_cos (len := len) (p := p) (q := q) (p' := p') (q' := q') (L := Pl.cosL (Pl.kroP D) N k D n) (N := N) (k := k) (D := D) (n := n) h)
  have HE1 := Lib.hid (fun h => imEr_shape (len := len) (p := p) (q := q) (p' := p') (q' := q') (L := Pl.cosL (Pl.kroP D) N k D n) (N := N) (k := k) (D := D) (n := n) h)
  have HE2 := Lib.hid (fun h => imEr_im (len := len) (p := p) (q := q) (p' := p') (q' := q') (L := Pl.cosL (Pl.kroP D) N k D n) (N := N) (k := k) (D := D) (n := n) h)
  have hCo := fun w1 (_ : Below w.heap.size w w1) => c_Cosets46 N k D n w1
  rw [← Pl.cosL_eq] at hCo
  have HCO := Lib.hid hCo
  clear hCo
  obtain ⟨L, hL⟩ : ∃ L, Pl.cosL (Pl.kroP D) N k D n = L := ⟨_, rfl⟩
  obtain ⟨E, hE⟩ : ∃ E, Pl.cosE N k D n = E := ⟨_, rfl⟩
  obtain ⟨er, her⟩ : ∃ er, imEr N k D n len p q p' q' L = er := ⟨_, rfl⟩
  simp only [hL, hE, her] at HCO HLL HLN HE0 HE1 HE2 HCK ⊢
  obtain ⟨Q, hQ⟩ : ∃ Q : Nat → Rat, (fun i => Rat.divInt (x i) (y i)) = Q := ⟨_, rfl⟩
  have HQS := Lib.hid (fun i (hi : i < len) => show hq (Q i) ≤ 4 by
    rw [← hQ]
    rcases hql with ⟨h1, _⟩ | ⟨_, _, _, _, _, h1⟩
    · omega
    · obtain ⟨_, _, _, _, _, _, _, _, _, _, _, _, h5, h6, h7, h8⟩ := h1 i hi
      exact hq_frac (Nat.le_trans h5.size h7) (Nat.le_trans h6.size h8))
  have HTR := Lib.hid (fun (a b d : Nat) (ch : Int) (hx : CosOk ((a, b, d), ch)) (h0 : 0 < len) (h23 : len ≤ 23) w1 (hb : Below w.heap.size w w1) => c_Translate42 (.slice vp len vc) len x y p q p' q' a b 0 d w1 (hql.keep (fun j => IsR.solid _ _) hb) h0 h23 (by omega) (by have := hx.1; dsimp only at this; omega) (by omega) (by have := hx.2.1; dsimp only at this; omega) (by omega) (by omega) (by omega) (by have := hx.2.2.1; dsimp only at this; omega) (by rw [Int.mul_zero, Int.sub_zero]; have h1 := hx.1; have h2 := hx.2.2.1; dsimp only at h1 h2; exact Int.mul_ne_zero (by omega) (by omega)) hp hp' hbq hbq' hr hr' hs hs')
  rw [hQ]
  simp only [hQ] at HTR
  obtain ⟨G, hG⟩ : ∃ G : Nat → Pl.Cos, (fun i => L.getD i ((0, 0, 0), 0)) = G := ⟨_, rfl⟩
  have HG := Lib.hid (fun i (hi : i < L.length) => (show L[i] = G i by rw [← hG]; simp [hi]))
  have HGO := Lib.hid (fun i (hi : i < L.length) => (show CosOk (G i) by rw [← HG.out i hi]; exact HLL.out _ (List.getElem_mem hi)))
  have eG : ∀ i, L.getD i ((0, 0, 0), 0) = G i := fun i => congrFun hG i
  simp only [eG]
  have HIA := Lib.hid (fun i (hi : i < L.length) (h0 : ∀ j, j < i → tE (G j) p q p' q' = 0) (h1 : tE (G i) p q p' q' ≠ 0) => (show imE p q p' q' L = tE (G i) p q p' q' by
    rw [← HG.out i hi]
    exact imE_at i hi (fun j hj => by rw [HG.out j (by omega)]; exact h0 j hj) (by rw [HG.out i hi]; exact h1)))
  have HIZ := Lib.hid (fun (h0 : ∀ j, j < L.length → tE (G j) p q p' q' = 0) => (show imE p q p' q' L = 0 from imE_all (fun x hx => by
    obtain ⟨i, hi, rfl⟩ := List.getElem_of_mem hx
    rw [HG.out i hi]; exact h0 i hi)))
  clear h hp hp' hbq hbq' hr hr' hs hs' hql hL hE her hQ eG hG HLL
  go_enter Tryz.func15, Tryz.ntmps15
  go_wp2_with fail
  obtain ⟨w0, hw0⟩ : ∃ w0, (w.alloc (.cells #[.int .i64 N, .int .i64 k, .int .i64 D] 23)).alloc (.cells #[.slice vp len vc, .int .i64 p, .int .i64 q, .int .i64 p', .int .i64 q'] 28) = w0 := ⟨_, rfl⟩
  rw [hw0]
  obtain ⟨X0, X1, hb0⟩ := box2 w #[.int .i64 N, .int .i64 k, .int .i64 D] 23 #[.slice vp len vc, .int .i64 p, .int .i64 q, .int .i64 p', .int .i64 q'] 28
  rw [hw0] at X0 X1 hb0
  have HB0 := Lib.hid hb0
  have HX0 := Lib.hid X0
  have HX1 := Lib.hid X1
  clear hw0 X0 X1 hb0
  refine (HCO.out w0 HB0.out).mono ?_
  rintro e w2 ⟨⟨v1, v2, rfl, ht⟩, hb2⟩
  obtain ⟨lp, lc, rfl, hmat⟩ := own_mat ht.mats rfl
  obtain ⟨fp, fc, rfl, hfac⟩ := own_fac ht.facs rfl
  have HMT := Lib.hid hmat
  have HFC := Lib.hid hfac
  replace HX0 := Lib.hid (HX0.out.below_ hb2 HX0.out.lt)
  replace HX1 := Lib.hid (HX1.out.below_ hb2 HX1.out.lt)
  have HB2 := Lib.hid (HB0.out.trans (hb2.mono HB0.out.size))
  have hs2 : w.heap.size ≤ w2.heap.size := HB2.out.size
  clear ht hb2 hmat hfac HB0 HCO
  by_cases hE0 : E = 0
  · subst hE0
    obtain ⟨ck1, ck2⟩ := HCK.out rfl
    have x1 : w2.cell? ⟨w.heap.size, 1, none⟩ = some (.int .i64 k) := HX0.out.at_ 1 rfl
    have y0 : w2.cell? ⟨w.heap.size + 1, 0, none⟩ = some (.slice vp len vc) := HX1.out.at_ 0 rfl
    obtain ⟨k1, hk1⟩ : ∃ k1 : Nat, k = k1 + 1 := ⟨(k - 1).toNat, by omega⟩
    have hkk : k - 1 = (k1 : Nat) := by omega
    have hkw : IntKind.i64.wrap (k1 : Int) = (k1 : Nat) := IntWalk.i64_in _ (by omega)
    have HK1 := Lib.hid hk1
    clear hk1 HCK HE0
    by_cases hl : len = k1
    · have HER := Lib.hid (HE2.out rfl (by omega))
      have hl0 : 0 < len := by omega
      have hl23 : len ≤ 23 := by omega
      subst hl
      clear HE1 HE2 ck1 ck2
      go_wp2
      go_loopw [11, 12] (fun vo ii wr => ∃ i : Nat, i ≤ L.length ∧ ii = .int .i64 i ∧ OwnP (fun i => imF Q len (G i)) (fun i => imX p q (G i)) (fun i => imX p' q' (G i)) wr w2.heap.size vo i len ∧ (∀ j, j < i → tE (G j) p q p' q' = 0) ∧ Below w2.heap.size w2 wr) (fun _ ii _ => L.length - (intOf ii).toNat)
      case atStart => exact ⟨0, Nat.zero_le _, rfl, OwnP.nil _ _ _ _ _ _, fun j hj => absurd hj (Nat.not_lt_zero _), Below.refl _ _⟩
      case round =>
        obtain ⟨i, hi, rfl, ho, hz, hbr⟩ := hrel
        obtain ⟨wx, rfl⟩ : ∃ wx : World, wx = wr := ⟨_, rfl⟩
        have HO := Lib.hid ho
        have HZ := Lib.hid hz
        have HBR := Lib.hid hbr
        clear ho hz
        by_cases hlt : i < L.length
        · obtain ⟨gl, rfl, hgl, m0, m1, m2, m3⟩ := HMT.out i hlt
          obtain ⟨gf, rfl, hgf, ff0⟩ := HFC.out i hlt
          rw [HG.out i hlt] at m0 m1 m3 ff0
          have hok := HGO.out i hlt
          obtain ⟨⟨⟨a, b, d⟩, ch⟩, hx⟩ : ∃ x, G i = x := ⟨_, rfl⟩
          rw [hx] at m0 m1 m3 ff0 hok
          dsimp only at m0 m1 m3 ff0
          have hT0 := HTR.out a b d ch hok hl0 hl23
          have eF : ∀ j, imF Q len (G i) j = (ch : Rat) * subst Q (len - 1) (d : Nat) (-(b : Nat)) (-0) (a : Nat) len j := fun j => by rw [hx]; rfl
          have eX : (appV (a : Nat) (b : Nat) 0 (d : Nat) p q).1 = imX p q (G i) := by rw [hx]; rfl
          have eY : (appV (a : Nat) (b : Nat) 0 (d : Nat) p' q').1 = imX p' q' (G i) := by rw [hx]; rfl
          have eT : trE (a : Nat) (b : Nat) 0 (d : Nat) p q p' q' = tE (G i) p q p' q' := by rw [hx]; rfl
          have hfs : ∀ j, hq (subst Q (len - 1) (d : Nat) (-(b : Nat)) (-0) (a : Nat) len j) ≤ 4000 := fun j => hq_subst HQS.out (nd64 (by have := hok.2.2.1; dsimp only at this; omega) (by have := hok.2.2.1; dsimp only at this; omega)) (nd64 (by have := hok.2.1; dsimp only at this; omega) (by omega)) (nd64 (by omega) (by omega)) (nd64 (by omega) (by have := hok.1; dsimp only at this; omega)) (by omega) (by omega)
          have hch := hok.2.2.2
          dsimp only at hch
          rw [eX, eY, eT] at hT0
          generalize subst Q (len - 1) (d : Nat) (-(b : Nat)) (-0) (a : Nat) len = fn at hT0 eF hfs
          obtain ⟨te, hte⟩ : ∃ te, tE (G i) p q p' q' = te := ⟨_, rfl⟩
          obtain ⟨⟨x1, y1⟩, hxx⟩ : ∃ z, imX p q (G i) = z := ⟨_, rfl⟩
          obtain ⟨⟨x2, y2⟩, hyy⟩ : ∃ z, imX p' q' (G i) = z := ⟨_, rfl⟩
          rw [hxx, hyy, hte] at hT0
          have HT := Lib.hid hT0
          have HEF := Lib.hid eF
          have HFS := Lib.hid hfs
          have HXX := Lib.hid hxx
          have HYY := Lib.hid hyy
          have HTE := Lib.hid hte
          have HFF := Lib.hid ff0
          have HGF := Lib.hid hgf
          have HCS := Lib.hid (show hq (ch : Rat) ≤ 10 by rw [hq_int]; have := nd64 (a := ch) (by omega) (by omega); omega)
          have c0 : wx.cell? ⟨gl, i * 4, none⟩ = some (.int .i64 a) := (hbr.cell (p := ⟨gl, i * 4, none⟩) hgl).trans m0
          have c1 : wx.cell? ⟨gl, i * 4 + 1, none⟩ = some (.int .i64 b) := (hbr.cell (p := ⟨gl, i * 4 + 1, none⟩) hgl).trans m1
          have c2 : wx.cell? ⟨gl, i * 4 + 2, none⟩ = some (.int .i64 0) := (hbr.cell (p := ⟨gl, i * 4 + 2, none⟩) hgl).trans m2
          have c3 : wx.cell? ⟨gl, i * 4 + 3, none⟩ = some (.int .i64 d) := (hbr.cell (p := ⟨gl, i * 4 + 3, none⟩) hgl).trans m3
          have hii : (i : Int) < (L.length : Int) := by omega
          have HX1W := Lib.hid (HX1.out.below_ hbr HX1.out.lt)
          have HWX := Lib.hid (HB2.out.trans (hbr.mono hs2))
          clear hT0 eF eX eY eT hfs hte hxx hyy hok hx m0 m1 m2 m3 ff0 hgl hgf hbr
          have pc0 : wx.cell? ⟨w.heap.size + 1, 0, none⟩ = some (.slice vp len vc) := HX1W.out.at_ 0 rfl
          have pc1 : wx.cell? ⟨w.heap.size + 1, 1, none⟩ = some (.int .i64 p) := HX1W.out.at_ 1 rfl
          have pc2 : wx.cell? ⟨w.heap.size + 1, 2, none⟩ = some (.int .i64 q) := HX1W.out.at_ 2 rfl
          have pc3 : wx.cell? ⟨w.heap.size + 1, 3, none⟩ = some (.int .i64 p') := HX1W.out.at_ 3 rfl
          have pc4 : wx.cell? ⟨w.heap.size + 1, 4, none⟩ = some (.int .i64 q') := HX1W.out.at_ 4 rfl
          have HTE1 := Lib.hid (fun w1 hb (hne : te ≠ 0) => (HT.out w1 hb).mono (R' := fun e w' => e = .returned (.tuple #[.agg #[.slice none 0 0, .int .i64 0, .int .i64 0, .int .i64 0, .int .i64 0], .int .i64 te]) ∧ Below w1.heap.size w1 w') (fun e w' h => ⟨by
            rcases h.1 with ⟨_, h2⟩ | ⟨h2, _⟩
            · exact h2
            · exact absurd h2 hne, h.2⟩))
          have HTZ1 := Lib.hid (fun w1 hb (hne : te = 0) => (HT.out w1 hb).mono (R' := fun e w' => (∃ g cap, e = .returned (.tuple #[.agg #[.slice (some ⟨g, 0, none⟩) len cap, .int .i64 x1, .int .i64 y1, .int .i64 x2, .int .i64 y2], .int .i64 0]) ∧ w1.heap.size ≤ g ∧ QRow (fun j => IsQ (fn j)) w' g len len) ∧ Below w1.heap.size w1 w') (fun e w' h => ⟨by
            rcases h.1 with ⟨h2, _⟩ | ⟨_, h2⟩
            · exact absurd hne h2
            · exact h2, h.2⟩))
          clear HT
          by_cases hte : te = 0
          · replace HTZ1 := Lib.hid (fun w1 hb => HTZ1.out w1 hb hte)
            subst hte
            clear HTE1
            go_upto_region 10 with (fail)
            go_cut [13, 14] from 39 to 47 (fun v13 v14 wd => ∃ gb g cap, v13 = .pointer (some ⟨gb, 0, none⟩) ∧ v14 = .int .i64 0 ∧ Below wx.heap.size wx wd ∧ wx.heap.size ≤ gb ∧ wx.heap.size ≤ g ∧ g ≠ gb ∧ Blk wd gb 28 #[.slice (some ⟨g, 0, none⟩) len cap, .int .i64 x1, .int .i64 y1, .int .i64 x2, .int .i64 y2] ∧ QRow (fun j => IsQ (fn j)) wd g len len)
            case first =>
              have hS1 : wx.cell? ⟨w.heap.size + 1, 0, none⟩ = some (.slice vp len vc) ∧ wx.cell? ⟨w.heap.size + 1, 1, none⟩ = some (.int .i64 p) ∧ wx.cell? ⟨w.heap.size + 1, 2, none⟩ = some (.int .i64 q) ∧ wx.cell? ⟨w.heap.size + 1, 3, none⟩ = some (.int .i64 p') ∧ wx.cell? ⟨w.heap.size + 1, 4, none⟩ = some (.int .i64 q') ∧ wx.cell? ⟨gl, i * 4, none⟩ = some (.int .i64 a) ∧ wx.cell? ⟨gl, i * 4 + 1, none⟩ = some (.int .i64 b) ∧ wx.cell? ⟨gl, i * 4 + 2, none⟩ = some (.int .i64 0) ∧ wx.cell? ⟨gl, i * 4 + 3, none⟩ = some (.int .i64 d) ∧ Below wx.heap.size wx wx ∧ wx.heap.size ≤ wx.heap.size := ⟨pc0, pc1, pc2, pc3, pc4, c0, c1, c2, c3, Below.refl _ _, Nat.le_refl _⟩
              have hS0 : wx.drew.cell? ⟨w.heap.size + 1, 0, none⟩ = some (.slice vp len vc) ∧ wx.drew.cell? ⟨w.heap.size + 1, 1, none⟩ = some (.int .i64 p) ∧ wx.drew.cell? ⟨w.heap.size + 1, 2, none⟩ = some (.int .i64 q) ∧ wx.drew.cell? ⟨w.heap.size + 1, 3, none⟩ = some (.int .i64 p') ∧ wx.drew.cell? ⟨w.heap.size + 1, 4, none⟩ = some (.int .i64 q') ∧ wx.drew.cell? ⟨gl, i * 4, none⟩ = some (.int .i64 a) ∧ wx.drew.cell? ⟨gl, i * 4 + 1, none⟩ = some (.int .i64 b) ∧ wx.drew.cell? ⟨gl, i * 4 + 2, none⟩ = some (.int .i64 0) ∧ wx.drew.cell? ⟨gl, i * 4 + 3, none⟩ = some (.int .i64 d) ∧ Below wx.heap.size wx wx.drew ∧ wx.heap.size ≤ wx.drew.heap.size := T9_0_next (Below.refl _ wx).drew hS1
              clear pc0 pc1 pc2 pc3 pc4 c0 c1 c2 c3
              have M1 : True := trivial
              go_region_held3 (fun w1 => w1.cell? ⟨w.heap.size + 1, 0, none⟩ = some (.slice vp len vc) ∧ w1.cell? ⟨w.heap.size + 1, 1, none⟩ = some (.int .i64 p) ∧ w1.cell? ⟨w.heap.size + 1, 2, none⟩ = some (.int .i64 q) ∧ w1.cell? ⟨w.heap.size + 1, 3, none⟩ = some (.int .i64 p') ∧ w1.cell? ⟨w.heap.size + 1, 4, none⟩ = some (.int .i64 q') ∧ w1.cell? ⟨gl, i * 4, none⟩ = some (.int .i64 a) ∧ w1.cell? ⟨gl, i * 4 + 1, none⟩ = some (.int .i64 b) ∧ w1.cell? ⟨gl, i * 4 + 2, none⟩ = some (.int .i64 0) ∧ w1.cell? ⟨gl, i * 4 + 3, none⟩ = some (.int .i64 d) ∧ Below wx.heap.size wx w1 ∧ wx.heap.size ≤ w1.heap.size)
                (first | with_reducible exact hS0 | with_reducible assumption | (refine T9_0_next (by with_reducible assumption) ?_; assumption) | exact T9_0_next (by go_grown) hS1)
                (first
                  | (go_at_call 51; refine (HTZ1.out _ (HWX.out.trans ((T9_0_below (by with_reducible assumption)).mono HWX.out.size))).mono ?_; rintro e w3 ⟨⟨g, cap, rfl, hg, hrow⟩, hb3⟩; have hbw : Below wx.heap.size wx w3 := Below.trans (T9_0_below (by with_reducible assumption)) (Below.mono hb3 (Below.size (T9_0_below (by with_reducible assumption)))); have hgx : wx.heap.size ≤ g := Nat.le_trans (Below.size (T9_0_below (by with_reducible assumption))) hg; have HROW3 := Lib.hid hrow; have hgs := hrow.sts.1; (try have hgn : g ≠ wx.heap.size := by (have h9 := hg; simp at h9; omega)); (try have fa := pfr1 (W := wx.drew) (g := wx.heap.size) rfl hb3); clear hg hrow))
              all_goals go_wp2
              all_goals go_meet
              all_goals first
                | exact ⟨_, g, cap, rfl, rfl, hbw.alloc hbw.size _, hbw.size, hgx, Nat.ne_of_lt hgs, Blk.new w3 _ _, HROW3.out.keep (fun _ => IsQ.solid _) ((Below.refl _ _).alloc (Nat.le_refl _) _)⟩
                | exact ⟨_, g, cap, rfl, rfl, pbelow hbw (Nat.le_refl _) _ _ _ _ _, Nat.le_refl _, hgx, hgn, pset fa.2.2.2.2.2.2.2.2.2.2 _ _ _ _ _, prow HROW3.out fa.2.2.2.2.2.2.2.2.2.2 hgn _ _ _ _ _ _ _⟩
            case rest =>
            obtain ⟨gb, g, cap, rfl, rfl, hbw, hgbx, hgx, hgbg, hbx, hrow⟩ := hcut
            obtain ⟨w4, rfl⟩ : ∃ w4 : World, w4 = wc := ⟨_, rfl⟩
            have HB4 := Lib.hid hbw
            have HBX := Lib.hid hbx
            have HRW := Lib.hid (hrow.congr (G := fun j => IsQ (mixQ fn (fun k => (ch : Rat) * fn k) 0 j)) (fun j _ => by rw [mixQ_zero]))
            have HFF4 := Lib.hid (show w4.cell? ⟨gf, i, none⟩ = some (.int .i64 ch) from ((HBR.out.trans (HB4.out.mono HBR.out.size)).cell (p := ⟨gf, i, none⟩) HGF.out).trans HFF.out)
            have hgfx : gf < wx.heap.size := Nat.lt_of_lt_of_le HGF.out HBR.out.size
            clear hbw hbx hrow HTZ1 pc0 pc1 pc2 pc3 pc4 c0 c1 c2 c3
            go_wp2
            go_loopw [15] (fun jj wz => ∃ j : Nat, j ≤ len ∧ jj = .int .i64 j ∧ QRow (fun k => IsQ (mixQ fn (fun k => (ch : Rat) * fn k) j k)) wz g len len ∧ w4.grownBy wz (some g)) (fun jj _ => len - (intOf jj).toNat)
            case atStart => exact ⟨0, Nat.zero_le _, rfl, HRW.out, but_below g (Below.refl _ _)⟩
            case round =>
              obtain ⟨j, hj, rfl, hrow, hby⟩ := hrel
              obtain ⟨wz, rfl⟩ : ∃ wz : World, wz = wr := ⟨_, rfl⟩
              have HROW := Lib.hid hrow
              have HBY := Lib.hid hby
              have HWZ := Lib.hid (below_but HB4.out hby (Nat.le_trans HB4.out.size (Nat.le_refl _)) hgx)
              have HWW := Lib.hid (HWX.out.trans (HWZ.out.mono HWX.out.size))
              have b0 := hby.cell (HBX.out.at_ 0 rfl) (fun e => by injection e with e; dsimp only at e; omega)
              clear HRW
              by_cases hjn : j < len
              · obtain ⟨s5, p5, n5, c5, t5, q5, m5, d5, e0, e1, e2, e3, hy⟩ := hrow.val j hjn
                have HEE := Lib.hid (show Cells4 wz g (j * 4) s5 p5 n5 c5 t5 q5 m5 d5 from ⟨e0, e1, e2, e3⟩)
                have HEE1 := Lib.hid (show Cells4 wz.drew g (j * 4) s5 p5 n5 c5 t5 q5 m5 d5 from ⟨e0, e1, e2, e3⟩)
                have HYE := Lib.hid (show Qs wz s5 p5 n5 c5 t5 q5 m5 d5 (fn j) by rw [← mixQ_at fn (fun k => (ch : Rat) * fn k) j]; exact hy)
                have ff := hby.cell HFF4.out (fun e => by injection e with e; dsimp only at e; omega)
                have hjj : (j : Int) < (len : Int) := by omega
                have hra := hrow
                have hgw : w.heap.size ≤ g := Nat.le_trans HWX.out.size hgx
                clear hy e0 e1 e2 e3 hrow hby
                go_upto_region 16 with (fail)
                have hS1 : wz.cell? ⟨gb, 0, none⟩ = some (.slice (some ⟨g, 0, none⟩) len cap) ∧ wz.cell? ⟨gf, i, none⟩ = some (.int .i64 ch) ∧ wz.cell? ⟨g, j * 4, none⟩ = some (cellOf wz ⟨g, j * 4, none⟩) ∧ wz.frozen? ⟨g, j * 4, none⟩ = false ∧ Sts wz (g) ∧ wz.cell? ⟨g, j * 4 + 1, none⟩ = some (cellOf wz ⟨g, j * 4 + 1, none⟩) ∧ wz.frozen? ⟨g, j * 4 + 1, none⟩ = false ∧ Sts wz (g) ∧ wz.cell? ⟨g, j * 4 + 2, none⟩ = some (cellOf wz ⟨g, j * 4 + 2, none⟩) ∧ wz.frozen? ⟨g, j * 4 + 2, none⟩ = false ∧ Sts wz (g) ∧ wz.cell? ⟨g, j * 4 + 3, none⟩ = some (cellOf wz ⟨g, j * 4 + 3, none⟩) ∧ wz.frozen? ⟨g, j * 4 + 3, none⟩ = false ∧ Sts wz (g) ∧ Below w.heap.size w wz ∧ w.heap.size ≤ wz.heap.size := ⟨b0, ff, cellOf_some (hra.has _ (by omega)), hra.free _ (by omega), hra.sts, cellOf_some (hra.has _ (by omega)), hra.free _ (by omega), hra.sts, cellOf_some (hra.has _ (by omega)), hra.free _ (by omega), hra.sts, cellOf_some (hra.has _ (by omega)), hra.free _ (by omega), hra.sts, HWW.out, Below.size (show Below w.heap.size w wz from HWW.out)⟩
                have hS0 : wz.drew.cell? ⟨gb, 0, none⟩ = some (.slice (some ⟨g, 0, none⟩) len cap) ∧ wz.drew.cell? ⟨gf, i, none⟩ = some (.int .i64 ch) ∧ wz.drew.cell? ⟨g, j * 4, none⟩ = some (cellOf wz.drew ⟨g, j * 4, none⟩) ∧ wz.drew.frozen? ⟨g, j * 4, none⟩ = false ∧ Sts wz.drew (g) ∧ wz.drew.cell? ⟨g, j * 4 + 1, none⟩ = some (cellOf wz.drew ⟨g, j * 4 + 1, none⟩) ∧ wz.drew.frozen? ⟨g, j * 4 + 1, none⟩ = false ∧ Sts wz.drew (g) ∧ wz.drew.cell? ⟨g, j * 4 + 2, none⟩ = some (cellOf wz.drew ⟨g, j * 4 + 2, none⟩) ∧ wz.drew.frozen? ⟨g, j * 4 + 2, none⟩ = false ∧ Sts wz.drew (g) ∧ wz.drew.cell? ⟨g, j * 4 + 3, none⟩ = some (cellOf wz.drew ⟨g, j * 4 + 3, none⟩) ∧ wz.drew.frozen? ⟨g, j * 4 + 3, none⟩ = false ∧ Sts wz.drew (g) ∧ Below w.heap.size w wz.drew ∧ w.heap.size ≤ wz.drew.heap.size := S2_4_next (Below.refl _ wz).drew hS1
                clear ff hra hS1
                have M1 : True := trivial
                refine wp_region_held_drew (S := (fun w1 => w1.cell? ⟨gb, 0, none⟩ = some (.slice (some ⟨g, 0, none⟩) len cap) ∧ w1.cell? ⟨gf, i, none⟩ = some (.int .i64 ch) ∧ w1.cell? ⟨g, j * 4, none⟩ = some (cellOf w1 ⟨g, j * 4, none⟩) ∧ w1.frozen? ⟨g, j * 4, none⟩ = false ∧ Sts w1 (g) ∧ w1.cell? ⟨g, j * 4 + 1, none⟩ = some (cellOf w1 ⟨g, j * 4 + 1, none⟩) ∧ w1.frozen? ⟨g, j * 4 + 1, none⟩ = false ∧ Sts w1 (g) ∧ w1.cell? ⟨g, j * 4 + 2, none⟩ = some (cellOf w1 ⟨g, j * 4 + 2, none⟩) ∧ w1.frozen? ⟨g, j * 4 + 2, none⟩ = false ∧ Sts w1 (g) ∧ w1.cell? ⟨g, j * 4 + 3, none⟩ = some (cellOf w1 ⟨g, j * 4 + 3, none⟩) ∧ w1.frozen? ⟨g, j * 4 + 3, none⟩ = false ∧ Sts w1 (g) ∧ Below w.heap.size w w1 ∧ w.heap.size ≤ w1.heap.size)) (by kernel_rfl) ?_ (fun hHeld0 => ?_)
                focus ((try dsimp only); (first | with_reducible exact hS0 | with_reducible assumption | (refine S2_4_next (by with_reducible assumption) ?_; assumption) | (refine S2_4_put ?_ ?_ ?_ ?_ ?_ ?_ ?_ ?_ ?_ ?_ ?_ ?_ ?_ ?_ ?_ ?_ ?_ <;> first | assumption | exact NotInt.bool _ | exact NotInt.slice _ _ _ | (dsimp only; omega) | (simp; done))))
                refine wpAnyH_take (i := 0) (v := ?_) rfl (by kernel_rfl) (by kernel_rfl) (by kernel_rfl) (fun _ _ _ h => h) (Or.inl ⟨by rfl, ?_⟩) (by assumption) ?_
                rotate_left
                focus (intro w hSw; (try dsimp only at hSw); go_simp; (try with_reducible rfl))
                focus (try simp only [Act.put, List.setIfInBounds_toArray, List.set_cons_zero, List.set_cons_succ])
                refine wpAnyH_take (i := 1) (v := ?_) rfl (by kernel_rfl) (by kernel_rfl) (by kernel_rfl) (fun _ _ _ h => h) (Or.inl ⟨by rfl, ?_⟩) (by assumption) ?_
                rotate_left
                focus (intro w hSw; (try dsimp only at hSw); go_simp; (try with_reducible rfl))
                focus (try simp only [Act.put, List.setIfInBounds_toArray, List.set_cons_zero, List.set_cons_succ])
                refine wpAnyH_take (i := 2) (v := ?_) rfl (by kernel_rfl) (by kernel_rfl) (by kernel_rfl) (fun _ _ _ h => h) (Or.inl ⟨by rfl, ?_⟩) (by assumption) ?_
                rotate_left
                focus (intro w hSw; (try dsimp only at hSw); go_simp; (try with_reducible rfl))
                focus (try simp only [Act.put, List.setIfInBounds_toArray, List.set_cons_zero, List.set_cons_succ])
                refine wpAnyH_take (i := 3) (v := ?_) rfl (by kernel_rfl) (by kernel_rfl) (by kernel_rfl) (fun _ _ _ h => h) (Or.inl ⟨by rfl, ?_⟩) (by assumption) ?_
                rotate_left
                focus (intro w hSw; (try dsimp only at hSw); go_simp; (try with_reducible rfl))
                focus (try simp only [Act.put, List.setIfInBounds_toArray, List.set_cons_zero, List.set_cons_succ])
                refine wpAnyH_take (i := 4) (v := ?_) rfl (by kernel_rfl) (by kernel_rfl) (by kernel_rfl) (fun _ _ _ h => h) (Or.inl ⟨by rfl, ?_⟩) (by assumption) ?_
                rotate_left
                focus (intro w hSw; (try dsimp only at hSw); go_simp; (try with_reducible rfl))
                focus (try simp only [Act.put, List.setIfInBounds_toArray, List.set_cons_zero, List.set_cons_succ])
                refine wpAnyH_take (i := 5) (v := ?_) rfl (by kernel_rfl) (by kernel_rfl) (by kernel_rfl) (fun _ _ _ h => h) (Or.inl ⟨by rfl, ?_⟩) (by assumption) ?_
                rotate_left
                focus (intro w hSw; (try dsimp only at hSw); go_simp; (try with_reducible rfl))
                focus (try simp only [Act.put, List.setIfInBounds_toArray, List.set_cons_zero, List.set_cons_succ])
                refine wpAnyH_take (i := 6) (v := ?_) rfl (by kernel_rfl) (by kernel_rfl) (by kernel_rfl) (fun _ _ _ h => h) (Or.inl ⟨by rfl, ?_⟩) (by assumption) ?_
                rotate_left
                focus (intro w hSw; (try dsimp only at hSw); go_simp; (try with_reducible rfl))
                focus (try simp only [Act.put, List.setIfInBounds_toArray, List.set_cons_zero, List.set_cons_succ])
                refine wpAnyH_take (i := 8) (v := ?_) rfl (by kernel_rfl) (by kernel_rfl) (by kernel_rfl) (fun _ _ _ h => h) (Or.inl ⟨by rfl, ?_⟩) (by assumption) ?_
                rotate_left
                focus (intro w hSw; (try dsimp only at hSw); go_simp; (try with_reducible rfl))
                focus (try simp only [Act.put, List.setIfInBounds_toArray, List.set_cons_zero, List.set_cons_succ])
                refine wpAnyH_take (i := 9) (v := ?_) rfl (by kernel_rfl) (by kernel_rfl) (by kernel_rfl) (fun _ _ _ h => h) (Or.inl ⟨by rfl, ?_⟩) (by assumption) ?_
                rotate_left
                focus (intro w hSw; (try dsimp only at hSw); go_simp; (try with_reducible rfl))
                focus (try simp only [Act.put, List.setIfInBounds_toArray, List.set_cons_zero, List.set_cons_succ])
                refine wpAnyH_take (i := 10) (v := ?_) rfl (by kernel_rfl) (by kernel_rfl) (by kernel_rfl) (fun _ _ _ h => h) (Or.inl ⟨by rfl, ?_⟩) (by assumption) ?_
                rotate_left
                focus (intro w hSw; (try dsimp only at hSw); go_simp; (try with_reducible rfl))
                focus (try simp only [Act.put, List.setIfInBounds_toArray, List.set_cons_zero, List.set_cons_succ])
                refine wpAnyH_take (i := 11) (v := ?_) rfl (by kernel_rfl) (by kernel_rfl) (by kernel_rfl) (fun _ _ _ h => h) (Or.inl ⟨by rfl, ?_⟩) (by assumption) ?_
                rotate_left
                focus (intro w hSw; (try dsimp only at hSw); go_simp; (try with_reducible rfl))
                focus (try simp only [Act.put, List.setIfInBounds_toArray, List.set_cons_zero, List.set_cons_succ])
                refine wpAnyH_ready (rs := [7, 12]) (by kernel_rfl) (by simp) ?_
                refine AllReadyH.cons rfl (fun K hK => ?_) ?_
                focus (go_simp; (first | (go_at_call 39; refine (c_Q ch _ (by omega) (by omega)).mono ?_; rintro e w5 ⟨⟨s3, p3, n3, c3, t3, q3, m3, d3, rfl, hz3⟩, hb5⟩; have HB5 := Lib.hid (show Below wz.heap.size wz w5 from (by first | exact (Below.refl _ wz).drew.trans hb5 | exact hb5)); have HZ5 := Lib.hid hz3; have HEE2 := Lib.hid (HEE.out.keep HB5.out); clear hz3) | (go_at_call 52; (first | rw [cellOf_eq HEE1.out.1, cellOf_eq HEE1.out.2.1, cellOf_eq HEE1.out.2.2.1, cellOf_eq HEE1.out.2.2.2] | rw [cellOf_eq HEE2.out.1, cellOf_eq HEE2.out.2.1, cellOf_eq HEE2.out.2.2.1, cellOf_eq HEE2.out.2.2.2]); refine (c_sMulQ s3 p3 n3 c3 t3 q3 m3 d3 (ch : Rat) s5 p5 n5 c5 t5 q5 m5 d5 (fn j) _ HZ5.out (HYE.out.keep HB5.out) (by have := HCS.out; omega) (by have := HFS.out j; omega)).mono ?_; rintro e w6 ⟨⟨s6, p6, n6, c6, t6, q6, m6, d6, rfl, hz6⟩, hb6⟩; have hbe : Below wz.heap.size wz w6 := HB5.out.trans (hb6.mono HB5.out.size); have HQA3 := Lib.hid (mixQ_put (f' := fun k => (ch : Rat) * fn k) (HROW.out.keep (fun _ => IsQ.solid _) hbe) hjn hz6); have HGR := Lib.hid (HBY.out.trans (but_below g hbe)); clear hz6 hbe hb5)); (first | done | with_reducible refine hK.out _ _ ?_ (fun hHeld1 => ?_) | (go_wp2_with fail; with_reducible refine hK.out _ _ ?_ (fun hHeld1 => ?_))))
                focus ((try dsimp only); (first | with_reducible exact hS0 | with_reducible assumption | (refine S2_4_next (by with_reducible assumption) ?_; assumption) | (refine S2_4_put ?_ ?_ ?_ ?_ ?_ ?_ ?_ ?_ ?_ ?_ ?_ ?_ ?_ ?_ ?_ ?_ ?_ <;> first | assumption | exact NotInt.bool _ | exact NotInt.slice _ _ _ | (dsimp only; omega) | (simp; done))))
                focus (clear hK K hHeld0; (try simp only [Act.put, List.setIfInBounds_toArray, List.set_cons_zero, List.set_cons_succ]))
                refine wpAnyH_ready (rs := [12]) (by kernel_rfl) (by simp) ?_
                refine AllReadyH.cons rfl (fun K hK => ?_) ?_
                focus (go_simp; refine hK.out _ _ ?_ (fun hHeld2 => ?_))
                focus ((try dsimp only); (first | with_reducible exact hS0 | with_reducible assumption | (refine S2_4_next (by with_reducible assumption) ?_; assumption) | (refine S2_4_put ?_ ?_ ?_ ?_ ?_ ?_ ?_ ?_ ?_ ?_ ?_ ?_ ?_ ?_ ?_ ?_ ?_ <;> first | assumption | exact NotInt.bool _ | exact NotInt.slice _ _ _ | (dsimp only; omega) | (simp; done))))
                focus (clear hK K hHeld1; (try simp only [Act.put, List.setIfInBounds_toArray, List.set_cons_zero, List.set_cons_succ]))
                refine wpAnyH_ready (rs := [13]) (by kernel_rfl) (by simp) ?_
                refine AllReadyH.cons rfl (fun K hK => ?_) ?_
                focus (go_simp; (first | (go_at_call 39; refine (c_Q ch _ (by omega) (by omega)).mono ?_; rintro e w5 ⟨⟨s3, p3, n3, c3, t3, q3, m3, d3, rfl, hz3⟩, hb5⟩; have HB5 := Lib.hid (show Below wz.heap.size wz w5 from (by first | exact (Below.refl _ wz).drew.trans hb5 | exact hb5)); have HZ5 := Lib.hid hz3; have HEE2 := Lib.hid (HEE.out.keep HB5.out); clear hz3) | (go_at_call 52; (first | rw [cellOf_eq HEE1.out.1, cellOf_eq HEE1.out.2.1, cellOf_eq HEE1.out.2.2.1, cellOf_eq HEE1.out.2.2.2] | rw [cellOf_eq HEE2.out.1, cellOf_eq HEE2.out.2.1, cellOf_eq HEE2.out.2.2.1, cellOf_eq HEE2.out.2.2.2]); refine (c_sMulQ s3 p3 n3 c3 t3 q3 m3 d3 (ch : Rat) s5 p5 n5 c5 t5 q5 m5 d5 (fn j) _ HZ5.out (HYE.out.keep HB5.out) (by have := HCS.out; omega) (by have := HFS.out j; omega)).mono ?_; rintro e w6 ⟨⟨s6, p6, n6, c6, t6, q6, m6, d6, rfl, hz6⟩, hb6⟩; have hbe : Below wz.heap.size wz w6 := HB5.out.trans (hb6.mono HB5.out.size); have HQA3 := Lib.hid (mixQ_put (f' := fun k => (ch : Rat) * fn k) (HROW.out.keep (fun _ => IsQ.solid _) hbe) hjn hz6); have HGR := Lib.hid (HBY.out.trans (but_below g hbe)); clear hz6 hbe hb5)); (first | done | with_reducible refine hK.out _ _ ?_ (fun hHeld3 => ?_) | (go_wp2_with fail; with_reducible refine hK.out _ _ ?_ (fun hHeld3 => ?_))))
                focus ((try dsimp only); (first | with_reducible exact hS0 | with_reducible assumption | (refine S2_4_next (by with_reducible assumption) ?_; assumption) | (refine S2_4_put ?_ ?_ ?_ ?_ ?_ ?_ ?_ ?_ ?_ ?_ ?_ ?_ ?_ ?_ ?_ ?_ ?_ <;> first | assumption | exact NotInt.bool _ | exact NotInt.slice _ _ _ | (dsimp only; omega) | (simp; done))))
                focus (clear hK K hHeld2; (try simp only [Act.put, List.setIfInBounds_toArray, List.set_cons_zero, List.set_cons_succ]))
                refine wpAnyH_take (i := 14) (v := ?_) rfl (by kernel_rfl) (by kernel_rfl) (by kernel_rfl) (fun _ _ _ h => h) (Or.inl ⟨by rfl, ?_⟩) (by assumption) ?_
                rotate_left
                focus (intro w hSw; (try dsimp only at hSw); go_simp; (try with_reducible rfl))
                focus (try simp only [Act.put, List.setIfInBounds_toArray, List.set_cons_zero, List.set_cons_succ])
                refine wpAnyH_ready (rs := [15]) (by kernel_rfl) (by simp) ?_
                refine AllReadyH.cons rfl (fun K hK => ?_) ?_
                focus (go_simp; refine hK.out _ _ ?_ (fun hHeld4 => ?_))
                focus ((try dsimp only); (first | with_reducible exact hS0 | with_reducible assumption | (refine S2_4_next (by with_reducible assumption) ?_; assumption) | (refine S2_4_put ?_ ?_ ?_ ?_ ?_ ?_ ?_ ?_ ?_ ?_ ?_ ?_ ?_ ?_ ?_ ?_ ?_ <;> first | assumption | exact NotInt.bool _ | exact NotInt.slice _ _ _ | (dsimp only; omega) | (simp; done))))
                focus (clear hK K hHeld3; (try simp only [Act.put, List.setIfInBounds_toArray, List.set_cons_zero, List.set_cons_succ]))
                focus (refine wpAnyH_done (by kernel_rfl) ?_ _)
                rotate_left
                exact AllReadyH.nil
                exact AllReadyH.nil
                exact AllReadyH.nil
                refine AllReadyH.cons rfl (fun K hK => ?_) ?_
                focus (go_simp; refine hK.out _ _ ?_ (fun hHeld1 => ?_))
                focus ((try dsimp only); (first | with_reducible exact hS0 | with_reducible assumption | (refine S2_4_next (by with_reducible assumption) ?_; assumption) | (refine S2_4_put ?_ ?_ ?_ ?_ ?_ ?_ ?_ ?_ ?_ ?_ ?_ ?_ ?_ ?_ ?_ ?_ ?_ <;> first | assumption | exact NotInt.bool _ | exact NotInt.slice _ _ _ | (dsimp only; omega) | (simp; done))))
                focus (clear hK K hHeld0; (try simp only [Act.put, List.setIfInBounds_toArray, List.set_cons_zero, List.set_cons_succ]))
                refine wpAnyH_ready (rs := [7]) (by kernel_rfl) (by simp) ?_
                refine AllReadyH.cons rfl (fun K hK => ?_) ?_
                focus (go_simp; (first | (go_at_call 39; refine (c_Q ch _ (by omega) (by omega)).mono ?_; rintro e w5 ⟨⟨s3, p3, n3, c3, t3, q3, m3, d3, rfl, hz3⟩, hb5⟩; have HB5 := Lib.hid (show Below wz.heap.size wz w5 from (by first | exact (Below.refl _ wz).drew.trans hb5 | exact hb5)); have HZ5 := Lib.hid hz3; have HEE2 := Lib.hid (HEE.out.keep HB5.out); clear hz3) | (go_at_call 52; (first | rw [cellOf_eq HEE1.out.1, cellOf_eq HEE1.out.2.1, cellOf_eq HEE1.out.2.2.1, cellOf_eq HEE1.out.2.2.2] | rw [cellOf_eq HEE2.out.1, cellOf_eq HEE2.out.2.1, cellOf_eq HEE2.out.2.2.1, cellOf_eq HEE2.out.2.2.2]); refine (c_sMulQ s3 p3 n3 c3 t3 q3 m3 d3 (ch : Rat) s5 p5 n5 c5 t5 q5 m5 d5 (fn j) _ HZ5.out (HYE.out.keep HB5.out) (by have := HCS.out; omega) (by have := HFS.out j; omega)).mono ?_; rintro e w6 ⟨⟨s6, p6, n6, c6, t6, q6, m6, d6, rfl, hz6⟩, hb6⟩; have hbe : Below wz.heap.size wz w6 := HB5.out.trans (hb6.mono HB5.out.size); have HQA3 := Lib.hid (mixQ_put (f' := fun k => (ch : Rat) * fn k) (HROW.out.keep (fun _ => IsQ.solid _) hbe) hjn hz6); have HGR := Lib.hid (HBY.out.trans (but_below g hbe)); clear hz6 hbe hb5)); (first | done | with_reducible refine hK.out _ _ ?_ (fun hHeld2 => ?_) | (go_wp2_with fail; with_reducible refine hK.out _ _ ?_ (fun hHeld2 => ?_))))
                focus ((try dsimp only); (first | with_reducible exact hS0 | with_reducible assumption | (refine S2_4_next (by with_reducible assumption) ?_; assumption) | (refine S2_4_put ?_ ?_ ?_ ?_ ?_ ?_ ?_ ?_ ?_ ?_ ?_ ?_ ?_ ?_ ?_ ?_ ?_ <;> first | assumption | exact NotInt.bool _ | exact NotInt.slice _ _ _ | (dsimp only; omega) | (simp; done))))
                focus (clear hK K hHeld1; (try simp only [Act.put, List.setIfInBounds_toArray, List.set_cons_zero, List.set_cons_succ]))
                refine wpAnyH_ready (rs := [13]) (by kernel_rfl) (by simp) ?_
                refine AllReadyH.cons rfl (fun K hK => ?_) ?_
                focus (go_simp; (first | (go_at_call 39; refine (c_Q ch _ (by omega) (by omega)).mono ?_; rintro e w5 ⟨⟨s3, p3, n3, c3, t3, q3, m3, d3, rfl, hz3⟩, hb5⟩; have HB5 := Lib.hid (show Below wz.heap.size wz w5 from (by first | exact (Below.refl _ wz).drew.trans hb5 | exact hb5)); have HZ5 := Lib.hid hz3; have HEE2 := Lib.hid (HEE.out.keep HB5.out); clear hz3) | (go_at_call 52; (first | rw [cellOf_eq HEE1.out.1, cellOf_eq HEE1.out.2.1, cellOf_eq HEE1.out.2.2.1, cellOf_eq HEE1.out.2.2.2] | rw [cellOf_eq HEE2.out.1, cellOf_eq HEE2.out.2.1, cellOf_eq HEE2.out.2.2.1, cellOf_eq HEE2.out.2.2.2]); refine (c_sMulQ s3 p3 n3 c3 t3 q3 m3 d3 (ch : Rat) s5 p5 n5 c5 t5 q5 m5 d5 (fn j) _ HZ5.out (HYE.out.keep HB5.out) (by have := HCS.out; omega) (by have := HFS.out j; omega)).mono ?_; rintro e w6 ⟨⟨s6, p6, n6, c6, t6, q6, m6, d6, rfl, hz6⟩, hb6⟩; have hbe : Below wz.heap.size wz w6 := HB5.out.trans (hb6.mono HB5.out.size); have HQA3 := Lib.hid (mixQ_put (f' := fun k => (ch : Rat) * fn k) (HROW.out.keep (fun _ => IsQ.solid _) hbe) hjn hz6); have HGR := Lib.hid (HBY.out.trans (but_below g hbe)); clear hz6 hbe hb5)); (first | done | with_reducible refine hK.out _ _ ?_ (fun hHeld3 => ?_) | (go_wp2_with fail; with_reducible refine hK.out _ _ ?_ (fun hHeld3 => ?_))))
                focus ((try dsimp only); (first | with_reducible exact hS0 | with_reducible assumption | (refine S2_4_next (by with_reducible assumption) ?_; assumption) | (refine S2_4_put ?_ ?_ ?_ ?_ ?_ ?_ ?_ ?_ ?_ ?_ ?_ ?_ ?_ ?_ ?_ ?_ ?_ <;> first | assumption | exact NotInt.bool _ | exact NotInt.slice _ _ _ | (dsimp only; omega) | (simp; done))))
                focus (clear hK K hHeld2; (try simp only [Act.put, List.setIfInBounds_toArray, List.set_cons_zero, List.set_cons_succ]))
                refine wpAnyH_take (i := 14) (v := ?_) rfl (by kernel_rfl) (by kernel_rfl) (by kernel_rfl) (fun _ _ _ h => h) (Or.inl ⟨by rfl, ?_⟩) (by assumption) ?_
                rotate_left
                focus (intro w hSw; (try dsimp only at hSw); go_simp; (try with_reducible rfl))
                focus (try simp only [Act.put, List.setIfInBounds_toArray, List.set_cons_zero, List.set_cons_succ])
                refine wpAnyH_ready (rs := [15]) (by kernel_rfl) (by simp) ?_
                refine AllReadyH.cons rfl (fun K hK => ?_) ?_
                focus (go_simp; refine hK.out _ _ ?_ (fun hHeld4 => ?_))
                focus ((try dsimp only); (first | with_reducible exact hS0 | with_reducible assumption | (refine S2_4_next (by with_reducible assumption) ?_; assumption) | (refine S2_4_put ?_ ?_ ?_ ?_ ?_ ?_ ?_ ?_ ?_ ?_ ?_ ?_ ?_ ?_ ?_ ?_ ?_ <;> first | assumption | exact NotInt.bool _ | exact NotInt.slice _ _ _ | (dsimp only; omega) | (simp; done))))
                focus (clear hK K hHeld3; (try simp only [Act.put, List.setIfInBounds_toArray, List.set_cons_zero, List.set_cons_succ]))
                focus (refine wpAnyH_done (by kernel_rfl) ?_ _)
                rotate_left
                exact AllReadyH.nil
                exact AllReadyH.nil
                exact AllReadyH.nil
                exact AllReadyH.nil
                all_goals go_wp2
                all_goals go_roundw
                all_goals first
                  | exact ⟨j + 1, by omega, by go_num, HQA3.out, HGR.out.trans (but_put4 _ _ _ _ _ _ _ _ _ _)⟩
                  | (simp [intOf]; omega)
              · obtain rfl : len = j := by omega
                have b1 := hby.cell (HBX.out.at_ 1 rfl) (fun e => by injection e with e; dsimp only at e; omega)
                have b2 := hby.cell (HBX.out.at_ 2 rfl) (fun e => by injection e with e; dsimp only at e; omega)
                have b3 := hby.cell (HBX.out.at_ 3 rfl) (fun e => by injection e with e; dsimp only at e; omega)
                have b4 := hby.cell (HBX.out.at_ 4 rfl) (fun e => by injection e with e; dsimp only at e; omega)
                have HRN := Lib.hid (hrow.congr (G := fun j => IsQ (imF Q len (G i) j)) (fun j hj => by rw [mixQ_all hj, HEF.out]))
                obtain ⟨hvo, xs, hK, hXs⟩ := HO.out.keep HWZ.out
                have HK := Lib.hid hK
                have HXS := Lib.hid hXs
                have HVO := Lib.hid hvo
                have HB2W := Lib.hid (HBR.out.trans (HWZ.out.mono HBR.out.size))
                have hLN := HLN.out
                clear hrow hby HROW hvo hK hXs
                go_wp2_with (at_builtin; refine wpl_app2 NotU32 rfl (.tmp 73) (.tmp 75) _ 28 rfl Tryz.underlying37 pathInfo rfl (by decide) w2.heap.size i u11 xs [.slice (some ⟨g, 0, none⟩) len cap, .int .i64 x1, .int .i64 y1, .int .i64 x2, .int .i64 y2] rfl HK.out rfl rfl (one5 _ _ _ _ _ _ _) (by omega) (by omega) HB2W.out.size (nu5 _ _ _ _ _ _ _) nuz ?_; intro v' w' hown' hgr hat; have HO2 := Lib.hid (OwnP.push (F := fun i => imF Q len (G i)) (X := fun i => imX p q (G i)) (Y := fun i => imX p' q' (G i)) HVO.out HK.out HXS.out HRN.out HXX.out HYY.out hown' hgr); have HBN := Lib.hid (own_below HB2W.out HK.out.1 hgr (Nat.le_refl _) HB2W.out.size); clear hown' hgr hat)
                go_roundw
                case rel => exact ⟨i + 1, by omega, by go_num, HO2.out, fun j hj => by
                  by_cases h : j < i
                  · exact HZ.out j h
                  · obtain rfl : j = i := by omega
                    exact HTE.out, HBN.out⟩
                case measure => simp [intOf]; omega
          · replace HTE1 := Lib.hid (fun w1 hb => HTE1.out w1 hb hte)
            clear HTZ1
            go_upto_region 10 with (fail)
            go_cut [13, 14] from 39 to 47 (fun v13 v14 wd => ∃ gb, v13 = .pointer (some ⟨gb, 0, none⟩) ∧ v14 = .int .i64 te ∧ Below wx.heap.size wx wd)
            case first =>
              have hS1 : wx.cell? ⟨w.heap.size + 1, 0, none⟩ = some (.slice vp len vc) ∧ wx.cell? ⟨w.heap.size + 1, 1, none⟩ = some (.int .i64 p) ∧ wx.cell? ⟨w.heap.size + 1, 2, none⟩ = some (.int .i64 q) ∧ wx.cell? ⟨w.heap.size + 1, 3, none⟩ = some (.int .i64 p') ∧ wx.cell? ⟨w.heap.size + 1, 4, none⟩ = some (.int .i64 q') ∧ wx.cell? ⟨gl, i * 4, none⟩ = some (.int .i64 a) ∧ wx.cell? ⟨gl, i * 4 + 1, none⟩ = some (.int .i64 b) ∧ wx.cell? ⟨gl, i * 4 + 2, none⟩ = some (.int .i64 0) ∧ wx.cell? ⟨gl, i * 4 + 3, none⟩ = some (.int .i64 d) ∧ Below wx.heap.size wx wx ∧ wx.heap.size ≤ wx.heap.size := ⟨pc0, pc1, pc2, pc3, pc4, c0, c1, c2, c3, Below.refl _ _, Nat.le_refl _⟩
              have hS0 : wx.drew.cell? ⟨w.heap.size + 1, 0, none⟩ = some (.slice vp len vc) ∧ wx.drew.cell? ⟨w.heap.size + 1, 1, none⟩ = some (.int .i64 p) ∧ wx.drew.cell? ⟨w.heap.size + 1, 2, none⟩ = some (.int .i64 q) ∧ wx.drew.cell? ⟨w.heap.size + 1, 3, none⟩ = some (.int .i64 p') ∧ wx.drew.cell? ⟨w.heap.size + 1, 4, none⟩ = some (.int .i64 q') ∧ wx.drew.cell? ⟨gl, i * 4, none⟩ = some (.int .i64 a) ∧ wx.drew.cell? ⟨gl, i * 4 + 1, none⟩ = some (.int .i64 b) ∧ wx.drew.cell? ⟨gl, i * 4 + 2, none⟩ = some (.int .i64 0) ∧ wx.drew.cell? ⟨gl, i * 4 + 3, none⟩ = some (.int .i64 d) ∧ Below wx.heap.size wx wx.drew ∧ wx.heap.size ≤ wx.drew.heap.size := T9_0_next (Below.refl _ wx).drew hS1
              clear pc0 pc1 pc2 pc3 pc4 c0 c1 c2 c3
              have M1 : True := trivial
              go_region_held3 (fun w1 => w1.cell? ⟨w.heap.size + 1, 0, none⟩ = some (.slice vp len vc) ∧ w1.cell? ⟨w.heap.size + 1, 1, none⟩ = some (.int .i64 p) ∧ w1.cell? ⟨w.heap.size + 1, 2, none⟩ = some (.int .i64 q) ∧ w1.cell? ⟨w.heap.size + 1, 3, none⟩ = some (.int .i64 p') ∧ w1.cell? ⟨w.heap.size + 1, 4, none⟩ = some (.int .i64 q') ∧ w1.cell? ⟨gl, i * 4, none⟩ = some (.int .i64 a) ∧ w1.cell? ⟨gl, i * 4 + 1, none⟩ = some (.int .i64 b) ∧ w1.cell? ⟨gl, i * 4 + 2, none⟩ = some (.int .i64 0) ∧ w1.cell? ⟨gl, i * 4 + 3, none⟩ = some (.int .i64 d) ∧ Below wx.heap.size wx w1 ∧ wx.heap.size ≤ w1.heap.size)
                (first | with_reducible exact hS0 | with_reducible assumption | (refine T9_0_next (by with_reducible assumption) ?_; assumption) | exact T9_0_next (by go_grown) hS1)
                (first
                  | (go_at_call 51; refine (HTE1.out _ (HWX.out.trans ((T9_0_below (by with_reducible assumption)).mono HWX.out.size))).mono ?_; rintro e w3 ⟨rfl, hb3⟩; have hbw : Below wx.heap.size wx w3 := Below.trans (T9_0_below (by with_reducible assumption)) (Below.mono hb3 (Below.size (T9_0_below (by with_reducible assumption)))); (try have fa := pfr1 (W := wx.drew) (g := wx.heap.size) rfl hb3)))
              all_goals go_wp2
              all_goals go_meet
              all_goals first
                | exact ⟨_, rfl, rfl, hbw.alloc hbw.size _⟩
                | exact ⟨_, rfl, rfl, pbelow hbw (Nat.le_refl _) _ _ _ _ _⟩
            case rest =>
            obtain ⟨gb, rfl, rfl, hbw⟩ := hcut
            have HERR := Lib.hid (show er = te by rw [HER.out, HIA.out i hlt HZ.out (by rw [HTE.out]; exact hte), HTE.out])
            go_wp2
            go_ret2
            exact ⟨⟨w2.heap.size, hs2, .inl ⟨by rw [HERR.out]; exact hte, by rw [HERR.out]; rfl⟩⟩, HWX.out.trans (hbw.mono HWX.out.size)⟩
        · obtain rfl : L.length = i := by omega
          have HERR := Lib.hid (show er = 0 by rw [HER.out, HIZ.out HZ.out])
          clear hbr
          go_wp2
          go_ret2
          exact ⟨⟨w2.heap.size, hs2, .inr ⟨HERR.out, _, rfl, HO.out⟩⟩, HB2.out.trans (HBR.out.mono hs2)⟩
    · have HER := Lib.hid (HE1.out rfl (by omega))
      have hln : ((len : Int) != (k1 : Int)) = true := by simp; omega
      clear HE1 HE2 ck1 ck2
      go_wp2
      go_ret2
      exact ⟨⟨w.heap.size, Nat.le_refl _, .inl ⟨by rw [HER.out]; decide, by rw [HER.out]; rfl⟩⟩, HB2.out⟩
  · have HER := Lib.hid (HE0.out hE0)
    clear HE0 HE1 HE2 HCK
    go_wp2
    go_ret2
    exact ⟨⟨w.heap.size, Nat.le_refl _, .inl ⟨by rw [HER.out]; exact hE0, by rw [HER.out]; rfl⟩⟩, HB2.out⟩
end Go.Proofs.YthikonjlgljikaaGreatDoor
