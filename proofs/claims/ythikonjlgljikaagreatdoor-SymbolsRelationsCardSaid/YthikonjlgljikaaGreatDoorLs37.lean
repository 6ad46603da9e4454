/- Append of all elements of a row, as a step of the walk, and rows of integers that are joined. Contracts of fresh, and of the methods Reduce, Free, Dim and Spec of *symbols.Module. Points, flags and places in memory, for projline.List and manin.enter. -/
import Derived.Test.YthikonjlgljikaaGreatDoorLs36
import Derived.Test.YthikonjlgljikaaGreatDoorLs34
import Derived.Deep.Upon
import Derived.Test.YthikonjlgljikaaGreatDoorLs35
namespace Go.Proofs.YthikonjlgljikaaGreatDoor
open Go.RowKit

theorem wpl_appN {P : Program} {W : World} {ops : Array Oper} {rest : List Oper} {o : Oper} {a : Act} {Q : Exit → Act → World → Prop} (K : Value → Prop) (hgd : o.guard = none) (s x : Operand) (t E : TypeId)
    (ho : o.op = .call { callee := .builtin .append, args := #[s, x], argTypes := #[t, t] }) {z : Value} {sz bytes : Nat} (hU : P.underlying t = some (.slice E))
    (hinfo : (P.info? E).map (fun i => (i.zero, i.size, i.bytes)) = some (some z, sz, bytes)) (hzs : z.cells.size = sz) (hsz : 0 < sz) (B n m g c : Nat) (v : Value) (xs news : List Value)
    (hs : a.eval s = v) (hown : OwnK K W B E sz v n xs) (hx : a.eval x = .slice (some ⟨g, 0, none⟩) m c) (hn : news.length = m * sz) (hcell : ∀ (j : Nat) (u : Value), news[j]? = some u → W.cell? ⟨g, j, none⟩ = some u) (h1 : ∀ u ∈ news, u.oneCell' = true)
    (hb : (n + m) * bytes ≤ 140737488355328) (hm : n + m ≤ 9223372036854775807) (hm0 : 0 < m) (hB : B ≤ W.heap.size) (hKn : ∀ u ∈ news, K u) (hKz : ∀ u ∈ z.cells.toList, K u)
    (h : ∀ v' w', OwnK K w' B E sz v' (n + m) (xs ++ news) → W.grownBy w' v.ownBlock → (v'.ownBlock = v.ownBlock ∨ v'.ownBlock = some W.heap.size) → wpList P ops Q rest (a.put o.dst v') w') :
    wpList P ops Q (o :: rest) a W := by
  obtain ⟨i0, hi, hz0, hz1, hz2⟩ := info_parts hinfo
  have hcell2 : ∀ (j : Nat) (u : Value), news[j]? = some u → W.cell? ((⟨g, 0, none⟩ : Addr).add j) = some u := by
    intro j u hu
    have e : (⟨g, 0, none⟩ : Addr).add j = ⟨g, j, none⟩ := by
      unfold Addr.add; split
      · rename_i h0; rw [h0]
      · simp
    rw [e]
    exact hcell j u hu
  obtain ⟨v', w', hr, g1, g2, _, g3⟩ := run_append_own_at (P := P) W B t o.type E i0 z sz bytes hU hi hz0 hz1 hz2 hzs hsz v n xs hown.1 ⟨g, 0, none⟩ m c news hn hcell2 h1 hm hb hB
  have g4 := append_stk K W B t o.type E i0 z sz bytes hU hi hz0 hz1 hz2 hzs hsz v n xs hown.1 ⟨g, 0, none⟩ m c news hn hcell2 h1 hm hb hm0 hown.2 hKn hKz hr
  refine wpList_plain hgd fun K' hK' => ?_
  unfold Oper.wp execOp
  simp only [ho, resolve, invoke, builtin, Sem.run_bind, Sem.run_pure, Result.andThen_ok, List.map_toArray, List.map_cons, List.map_nil, hs, hx, hr]
  exact hK' _ _ (h v' w' ⟨g1, g4⟩ g2 g3)

/-- The cells of a row. -/
def rowCells (w : World) (g n : Nat) : List Value := (List.range n).map fun i => cellOf w ⟨g, i, none⟩
theorem rowCells_length (w : World) (g n : Nat) : (rowCells w g n).length = n := by unfold rowCells; rw [List.length_map, List.length_range]
theorem rowCells_get {w : World} {g n j : Nat} (hj : j < n) : (rowCells w g n)[j]? = some (cellOf w ⟨g, j, none⟩) := by
  unfold rowCells
  rw [List.getElem?_map, List.getElem?_range hj]; rfl
theorem rowCells_lt {w : World} {g n j : Nat} {u : Value} (h : (rowCells w g n)[j]? = some u) : j < n := by
  rcases Nat.lt_or_ge j n with h1 | h1
  · exact h1
  · rw [List.getElem?_eq_none (by rw [rowCells_length]; exact h1)] at h; cases h
theorem ZRow.cellOf {f : Nat → Int} {w : World} {g N : Nat} (h : ZRow f w g N N) {i : Nat} (hi : i < N * 2) : w.cell? ⟨g, i, none⟩ = some (cellOf w ⟨g, i, none⟩) := by
  obtain ⟨u, hu⟩ := Option.isSome_iff_exists.1 (h.has i hi)
  rw [hu, cellOf_eq hu]
theorem ZRow.shape {f : Nat → Int} {w : World} {g N : Nat} (h : ZRow f w g N N) {i : Nat} (hi : i < N * 2) : (∃ s, Go.Proofs.YthikonjlgljikaaGreatDoor.cellOf w ⟨g, i, none⟩ = .bool s) ∨ ∃ p n c, Go.Proofs.YthikonjlgljikaaGreatDoor.cellOf w ⟨g, i, none⟩ = .slice p n c := by
  obtain ⟨s, p, n, c, e0, e1, _⟩ := h.val (i / 2) (by omega)
  rcases Nat.mod_two_eq_zero_or_one i with h2 | h2
  · rw [show i / 2 * 2 = i by omega] at e0
    exact .inl ⟨s, cellOf_eq e0⟩
  · rw [show i / 2 * 2 + 1 = i by omega] at e1
    exact .inr ⟨p, n, c, cellOf_eq e1⟩
theorem rowCells_all {f : Nat → Int} {w : World} {g N : Nat} (h : ZRow f w g N N) {u : Value} (hu : u ∈ rowCells w g (N * 2)) : (∃ s, u = .bool s) ∨ ∃ p n c, u = .slice p n c := by
  obtain ⟨j, hj⟩ := List.getElem?_of_mem hu
  have hl := rowCells_lt hj
  rw [rowCells_get hl] at hj
  injection hj with hj
  subst hj
  exact h.shape hl
theorem rowCells_one {f : Nat → Int} {w : World} {g N : Nat} (h : ZRow f w g N N) : ∀ u ∈ rowCells w g (N * 2), u.oneCell' = true := by
  intro u hu
  rcases rowCells_all h hu with ⟨s, rfl⟩ | ⟨p, n, c, rfl⟩ <;> rfl
theorem rowCells_ni {f : Nat → Int} {w : World} {g N : Nat} (h : ZRow f w g N N) : ∀ u ∈ rowCells w g (N * 2), NotInt u := by
  intro u hu
  rcases rowCells_all h hu with ⟨s, rfl⟩ | ⟨p, n, c, rfl⟩
  · exact NotInt.bool _
  · exact NotInt.slice _ _ _
theorem rowCells_cell {f : Nat → Int} {w : World} {g N : Nat} (h : ZRow f w g N N) : ∀ (j : Nat) (u : Value), (rowCells w g (N * 2))[j]? = some u → w.cell? ⟨g, j, none⟩ = some u := by
  intro j u hj
  have hl := rowCells_lt hj
  rw [rowCells_get hl] at hj
  rw [h.cellOf hl, hj]
/-- A row behind a row. -/
theorem OwnZ.more {f r : Nat → Int} {W w' : World} {B n m g : Nat} {v v' : Value} {xs : List Value} (h1 : OwnK NotInt W B 33 2 v n xs) (h2 : ∀ j, j < n → ZX (f j) W xs (j * 2))
    (hr : ZRow r W g m m) (h3 : OwnK NotInt w' B 33 2 v' (n + m) (xs ++ rowCells W g (m * 2))) (hg : W.grownBy w' v.ownBlock) (f' : Nat → Int) (e1 : ∀ j, j < n → f' j = f j) (e2 : ∀ j, j < m → f' (n + j) = r j) : OwnZ f' w' B v' (n + m) := by
  have h32 := I32.grown (K := NotInt) (fun x => not_int32 x) h1.2 hg
  refine ⟨_, h3, fun j hj => ?_⟩
  by_cases hjn : j < n
  · rw [e1 j hjn]; exact ((h2 j hjn).i32 h32).app
  · obtain ⟨k, rfl⟩ : ∃ k, j = n + k := ⟨j - n, by omega⟩
    have hk : k < m := by omega
    have hl : xs.length = n * 2 := h1.1.1
    rw [e2 k hk]
    obtain ⟨s, p, c, d, c0, c1, hz⟩ := hr.val k hk
    refine ⟨s, p, c, d, ?_, ?_, hz.i32 h32⟩
    · rw [List.getElem?_append_right (by omega), hl, show (n + k) * 2 - n * 2 = k * 2 by omega, rowCells_get (by omega), cellOf_eq c0]
    · rw [List.getElem?_append_right (by omega), hl, show (n + k) * 2 + 1 - n * 2 = k * 2 + 1 by omega, rowCells_get (by omega), cellOf_eq c1]
end Go.Proofs.YthikonjlgljikaaGreatDoor
namespace Go.Proofs.YthikonjlgljikaaGreatDoor
open Go.RowKit Eli

theorem c_qNormalQ (s : Bool) (p : Option Addr) (n c : Nat) (t : Bool) (q : Option Addr) (m d : Nat) (x : Rat) (w : World) (h : Qs w s p n c t q m d x) (hx : hq x ≤ 1000000000) :
    Calls Tryz.prog 114 #[.agg #[.bool s, .slice p n c, .bool t, .slice q m d]] w fun e w' => RetQ w' e x ∧ Below w.heap.size w w' := by
  have h1 := c_qNormal s p n c x.num t q m d x.den w h.1.raw h.2.raw (by have := h.sizes; omega) (by have := h.sizes; omega)
  rw [rat_self] at h1
  exact h1
theorem wpl_app0 {P : Program} {W : World} {ops : Array Oper} {rest : List Oper} {o : Oper} {a : Act} {Q : Exit → Act → World → Prop} (hgd : o.guard = none) (s x : Operand) (t E : TypeId)
    (ho : o.op = .call { callee := .builtin .append, args := #[s, x], argTypes := #[t, t] }) {z : Value} {sz bytes : Nat} (hU : P.underlying t = some (.slice E))
    (hinfo : (P.info? E).map (fun i => (i.zero, i.size, i.bytes)) = some (some z, sz, bytes)) (p : Option Addr) (c : Nat)
    (hs : a.eval s = .slice none 0 0) (hx : a.eval x = .slice p 0 c)
    (h : wpList P ops Q rest (a.put o.dst (.slice none 0 0)) W) :
    wpList P ops Q (o :: rest) a W := by
  obtain ⟨i0, hi, hz0, hz1, hz2⟩ := info_parts hinfo
  have hsrc : Src P i0.size t (.slice p 0 c) 0 [] W := by
    cases p with
    | none => exact Src.ofNil W hU c
    | some a => exact Src.ofSlice W hU a 0 c [] (by simp) (fun j u h => by simp at h) (fun u h => by cases h)
  have hr := run_append_nothing (P := P) W t t o.type E i0 hU hi none 0 0 (Nat.le_refl _) (.slice p 0 c) hsrc
  refine wpList_plain hgd fun K' hK' => ?_
  unfold Oper.wp execOp
  simp only [ho, resolve, invoke, builtin, Sem.run_bind, Sem.run_pure, Result.andThen_ok, List.map_toArray, List.map_cons, List.map_nil, hs, hx, hr]
  exact hK' _ _ h
set_option maxHeartbeats 2000000 in
set_option maxRecDepth 100000 in
theorem c_fresh (g N : Nat) (F : Nat → Rat) (w : World) (h : ∀ i, i < N → QE (IsQ (F i)) w g (i * 4)) (hN : N ≤ 1000000) (hF : ∀ i, i < N → hq (F i) ≤ 1000000000) :
    Calls Tryz.prog 62 #[.slice (some ⟨g, 0, none⟩) N N] w fun e w' => (∃ g', e = .returned (.slice (some ⟨g', 0, none⟩) N N) ∧ w.heap.size ≤ g' ∧ QRow (fun i => IsQ (F i)) w' g' N N) ∧ Below w.heap.size w w' := by
  have HR := Lib.hid h
  have HF := Lib.hid hF
  have hmk := makeQ N (by omega)
  clear h hF
  go_enter Tryz.func62, Tryz.ntmps62
  go_wp2_with fail
  have hrm := QRow.made (fun i => IsQ (F i)) w N
  obtain ⟨w0, hw0⟩ : ∃ w0, w.alloc (.cells (madeCells #[.bool false, .slice none 0 0, .bool false, .slice none 0 0] (N * 4)) 35) = w0 := ⟨_, rfl⟩
  have hb0 : Below w.heap.size w w0 := hw0 ▸ (Below.refl _ _).alloc (Nat.le_refl _) _
  rw [hw0] at hrm ⊢
  have HRM := Lib.hid hrm
  have HB0 := Lib.hid hb0
  obtain ⟨G, hG⟩ : ∃ G, w.heap.size = G := ⟨_, rfl⟩
  rw [hG] at HRM HB0 ⊢
  have HGE := Lib.hid hG
  clear hrm hb0 hw0 hG hmk
  go_loopw [11] (fun ii wr => ∃ k : Nat, k ≤ N ∧ ii = .int .i64 k ∧ QRow (fun i => IsQ (F i)) wr G N k ∧ Below G w wr) (fun ii _ => N - (intOf ii).toNat)
  case atStart => exact ⟨0, Nat.zero_le _, rfl, HRM.out, HB0.out⟩
  case round =>
    obtain ⟨k, hk, rfl, hrow, hb1⟩ := hrel
    obtain ⟨w1, rfl⟩ : ∃ w1 : World, w1 = wr := ⟨_, rfl⟩
    have HROW := Lib.hid hrow
    have HB1 := Lib.hid hb1
    clear hrow hb1 HRM HB0
    by_cases hlt : k < N
    · have hki : (k : Int) < (N : Int) := by omega
      have hb1 := HB1.out
      rw [← HGE.out] at hb1
      obtain ⟨s, p, n, c, t, q, m, d, a0, a1, a2, a3, hx⟩ := (HR.out k hlt).keep (IsQ.solid _) hb1
      have HX := Lib.hid (show Qs w1 s p n c t q m d (F k) from hx)
      clear hx hb1
      go_wp2_with fail
      obtain ⟨w2, hw2⟩ : ∃ w2, w1.alloc (.cells #[.bool s, .slice p n c, .bool t, .slice q m d] 35) = w2 := ⟨_, rfl⟩
      have hb2 : Below w1.heap.size w1 w2 := hw2 ▸ (Below.refl _ _).alloc (Nat.le_refl _) _
      rw [hw2]
      refine (c_qNormalQ s p n c t q m d (F k) w2 (HX.out.keep hb2) (HF.out k hlt)).mono ?_
      rintro e w3 ⟨⟨s3, p3, n3, c3, t3, q3, m3, d3, rfl, hq3⟩, hb3⟩
      have hb13 := hb2.trans (hb3.mono hb2.size)
      have hr3 := QRow.keep (fun _ => IsQ.solid _) HROW.out hb13
      have HQA := Lib.hid (QRow.set (k' := k + 1) (fun _ => IsQ.solid _) hr3 k hlt (fun i => IsQ (F i)) (IsQ.solid _) (fun i' h1 h2 => ⟨by omega, rfl⟩) (show IsQ (F k) w3 s3 p3 n3 c3 t3 q3 m3 d3 from hq3))
      have HB3 := Lib.hid (HB1.out.trans (hb13.mono (Nat.le_of_lt HROW.out.sts.1)))
      obtain ⟨u0, hu0⟩ := Option.isSome_iff_exists.1 (hr3.has (k * 4) (by omega))
      obtain ⟨u1, hu1⟩ := Option.isSome_iff_exists.1 (hr3.has (k * 4 + 1) (by omega))
      obtain ⟨u2, hu2⟩ := Option.isSome_iff_exists.1 (hr3.has (k * 4 + 2) (by omega))
      obtain ⟨u3, hu3⟩ := Option.isSome_iff_exists.1 (hr3.has (k * 4 + 3) (by omega))
      have f0 := hr3.free (k * 4) (by omega)
      have f1 := hr3.free (k * 4 + 1) (by omega)
      have f2 := hr3.free (k * 4 + 2) (by omega)
      have f3 := hr3.free (k * 4 + 3) (by omega)
      clear hq3 hb2 hb3 hb13 hr3 hw2 a0 a1 a2 a3
      go_wp2
      go_roundw
      case rel => exact ⟨k + 1, by omega, by go_num, HQA.out, below_put4g HB3.out⟩
      case measure => simp [intOf]; omega
    · obtain rfl : N = k := by omega
      have hE := HGE.out
      go_wp2
      go_ret
      exact ⟨⟨G, rfl, Nat.le_of_eq hE, HROW.out⟩, hE ▸ HB1.out⟩
set_option maxHeartbeats 2000000 in
set_option maxRecDepth 100000 in
theorem c_Reduce (M B : Nat) (N k D : Int) (F : List Nat) (C : Nat) (X : Nat → Nat → Rat) (n : Nat) (w : World) (h : ModAt w M B N k D F C X) (hn : n < C) (hFl : F.length ≤ 1000000) (hX : ∀ f, f ∈ F → hq (X n f) ≤ 1000000000) :
    Calls Tryz.prog 21 #[.pointer (some ⟨M, 0, none⟩), .int .i64 n] w fun e w' => (∃ g, e = .returned (.tuple #[.slice (some ⟨g, 0, none⟩) F.length F.length, .int .i64 0]) ∧ w.heap.size ≤ g ∧ QRow (fun i => IsQ (X n (F.getD i 0))) w' g F.length F.length) ∧ Below w.heap.size w w' := by
  obtain ⟨GR, c4, _, hrows⟩ := h.c4
  obtain ⟨g, r0, hg, hq⟩ := hrows n hn
  have HC := Lib.hid (c_fresh g F.length (fun i => X n (F.getD i 0)) w (fun i hi => by
    have e : F[i]? = some (F.getD i 0) := by rw [List.getD_eq_getElem?_getD, List.getElem?_eq_getElem hi]; rfl
    exact hq i _ e) hFl (fun i hi => hX _ (by rw [List.getD_eq_getElem?_getD, List.getElem?_eq_getElem hi]; exact List.getElem_mem hi)))
  have hni : (n : Int) < (C : Int) := by omega
  have hn0 : (0 : Int) ≤ (n : Int) := by omega
  clear h hrows hq hX hg
  go_enter Tryz.func21, Tryz.ntmps21
  go_wp2_with fail
  refine HC.out.mono ?_
  rintro e w1 ⟨⟨g1, rfl, hg1, hrow⟩, hb1⟩
  have HP := Lib.hid (And.intro hg1 (And.intro hrow hb1))
  clear hg1 hrow hb1 HC
  go_wp2
  (first | go_ret2 | go_ret)
  exact ⟨⟨g1, rfl, HP.out.1, HP.out.2.1⟩, HP.out.2.2⟩
theorem NL.val {F : List Nat} {w : World} {B : Nat} {v : Value} (h : NL F w B v) : ∃ p c, v = .slice p F.length c := by
  rcases h with ⟨rfl, a, c, rfl⟩ | ⟨g, cap, e, _⟩
  · exact ⟨a, c, rfl⟩
  · exact ⟨_, _, e⟩
theorem c_Dim (M B : Nat) (N k D : Int) (F : List Nat) (C : Nat) (X : Nat → Nat → Rat) (w : World) (h : ModAt w M B N k D F C X) :
    Calls Tryz.prog 25 #[.pointer (some ⟨M, 0, none⟩)] w fun e w' => e = .returned (.int .i64 (F.length : Int)) ∧ w' = w := by
  obtain ⟨v, c3, h3⟩ := h.c3
  obtain ⟨p, c, rfl⟩ := h3.val
  clear h h3
  go_enter Tryz.func25, Tryz.ntmps25
  go_wp2
  go_ret
  exact ⟨rfl, rfl⟩
set_option maxHeartbeats 2000000 in
set_option maxRecDepth 100000 in
theorem c_Free (M B : Nat) (N k D : Int) (F : List Nat) (C : Nat) (X : Nat → Nat → Rat) (w : World) (h : ModAt w M B N k D F C X) (hFl : F.length ≤ 1000000) :
    Calls Tryz.prog 27 #[.pointer (some ⟨M, 0, none⟩)] w fun e w' => (∃ v, e = .returned v ∧ OwnN F w' w.heap.size v) ∧ Below w.heap.size w w' := by
  obtain ⟨v, c3, h3⟩ := h.c3
  clear h
  rcases h3 with ⟨rfl, a, c, rfl⟩ | ⟨g, cap, rfl, hc, hc2, hg, hx⟩
  · have HN := Lib.hid (OwnN.nil w w.heap.size)
    go_enter Tryz.func27, Tryz.ntmps27
    go_wp2_with (at_builtin; refine wpl_app0 rfl (.const (.slice none 0 0)) (.tmp 8) _ 3 rfl Tryz.underlying49 intInfo a c rfl rfl ?_)
    go_ret
    exact ⟨⟨_, rfl, HN.out⟩, Below.refl _ _⟩
  · rcases Nat.eq_zero_or_pos F.length with h0 | hpos
    · have HN := Lib.hid (OwnN.nil w w.heap.size)
      obtain rfl : F = [] := List.eq_nil_of_length_eq_zero h0
      rw [List.length_nil] at c3
      clear hc hx hFl h0
      go_enter Tryz.func27, Tryz.ntmps27
      go_wp2_with (at_builtin; refine wpl_app0 rfl (.const (.slice none 0 0)) (.tmp 8) _ 3 rfl Tryz.underlying49 intInfo (some ⟨g, 0, none⟩) cap rfl rfl ?_)
      go_ret
      exact ⟨⟨_, rfl, HN.out⟩, Below.refl _ _⟩
    · have HX := Lib.hid hx
      have hnews : ∀ (j : Nat) (u : Value), (F.map fun n : Nat => Value.int .i64 (n : Int))[j]? = some u → w.cell? ⟨g, j, none⟩ = some u := by
        intro j u hj
        rw [List.getElem?_map] at hj
        cases hF : F[j]? with
        | none => rw [hF] at hj; cases hj
        | some x => rw [hF] at hj; injection hj with hj; rw [← hj]; exact hx j x hF
      have HNW := Lib.hid hnews
      clear hx hnews
      go_enter Tryz.func27, Tryz.ntmps27
      go_wp2_with (at_builtin; refine wpl_appN NotU32 rfl (.const (.slice none 0 0)) (.tmp 8) _ 3 rfl Tryz.underlying49 intInfo rfl (by decide) w.heap.size 0 F.length g cap (.slice none 0 0) [] (F.map fun n : Nat => Value.int .i64 (n : Int)) rfl (OwnK.nil _ _ _ _ _) rfl (by rw [List.length_map, Nat.mul_one]) HNW.out (by intro u hu; obtain ⟨x, _, rfl⟩ := List.mem_map.1 hu; rfl) (by omega) (by omega) hpos (Nat.le_refl _) (by intro u hu; obtain ⟨x, _, rfl⟩ := List.mem_map.1 hu; exact fun _ h => by cases h) (by intro u hu; simp [Value.cells] at hu; subst hu; exact fun _ h => by cases h) ?_; intro v' w' hown' hgr hat; have HO := Lib.hid (show OwnN F w' w.heap.size v' by have h := hown'; rw [Nat.zero_add, List.nil_append] at h; exact h); have HB := Lib.hid (own_below (Below.refl w.heap.size w) (OwnK.nil NotU32 w w.heap.size 3 1).1 hgr (Nat.le_refl _) (Nat.le_refl _)); clear hown' hgr hat)
      go_ret
      exact ⟨⟨_, rfl, HO.out⟩, HB.out⟩
end Go.Proofs.YthikonjlgljikaaGreatDoor
namespace Go.Proofs.YthikonjlgljikaaGreatDoor
open Go.RowKit

/-! The units -/
def uns (n : Nat) : Nat → List Nat
  | 0 => []
  | m + 1 => if pun n (m + 1) then uns n m ++ [m + 1] else uns n m
theorem uns_succ (n m : Nat) : uns n (m + 1) = if pun n (m + 1) then uns n m ++ [m + 1] else uns n m := rfl
theorem uns_mem {n m s : Nat} : s ∈ uns n m ↔ 1 ≤ s ∧ s ≤ m ∧ pun n s = true := by
  induction m with
  | zero => constructor
            · intro h; simp [uns] at h
            · rintro ⟨h1, h2, _⟩; omega
  | succ m ih =>
    rw [uns_succ]
    split
    · rename_i hu
      rw [List.mem_append, ih, List.mem_singleton]
      constructor
      · rintro (⟨h1, h2, h3⟩ | rfl)
        · exact ⟨h1, by omega, h3⟩
        · exact ⟨by omega, Nat.le_refl _, hu⟩
      · rintro ⟨h1, h2, h3⟩
        rcases Nat.lt_or_ge s (m + 1) with h | h
        · exact .inl ⟨h1, by omega, h3⟩
        · exact .inr (by omega)
    · rename_i hu
      rw [ih]
      constructor
      · rintro ⟨h1, h2, h3⟩; exact ⟨h1, by omega, h3⟩
      · rintro ⟨h1, h2, h3⟩
        refine ⟨h1, ?_, h3⟩
        rcases Nat.lt_or_ge s (m + 1) with h | h
        · omega
        · have : s = m + 1 := by omega
          subst this
          exact absurd h3 hu
theorem uns_length (n m : Nat) : (uns n m).length ≤ m := by
  induction m with
  | zero => exact Nat.le_refl _
  | succ m ih =>
    rw [uns_succ]
    split
    · rw [List.length_append]; simp; exact ih
    · omega
/-- The flags while the multiples of a new point are marked. -/
def flg (n : Nat) (l : List Nat) (a t i : Nat) : Bool := pseen n l i || ((uns n n).take t).any fun s => pmul n s a == i
theorem flg_zero (n : Nat) (l : List Nat) (a i : Nat) : flg n l a 0 i = pseen n l i := by simp [flg]
theorem flg_succ {n : Nat} {l : List Nat} {a t s : Nat} (h : (uns n n)[t]? = some s) (i : Nat) : flg n l a (t + 1) i = if i = pmul n s a then true else flg n l a t i := by
  unfold flg
  rw [List.take_add_one, h, Option.toList_some, List.any_append]
  simp only [List.any_cons, List.any_nil, Bool.or_false]
  by_cases e : i = pmul n s a
  · rw [if_pos e, e]; simp
  · rw [if_neg e]
    have : (pmul n s a == i) = false := by simpa using fun h => e h.symm
    rw [this, Bool.or_false]
theorem flg_all {n : Nat} {l : List Nat} {a : Nat} (i : Nat) : flg n l a (uns n n).length i = pseen n (l ++ [a]) i := by
  unfold flg
  rw [List.take_length]
  unfold pseen
  rw [List.any_append]
  congr 1
  simp only [List.any_cons, List.any_nil, Bool.or_false]
  rw [Bool.eq_iff_iff]
  simp only [List.any_eq_true, List.mem_range, Bool.and_eq_true, uns_mem]
  constructor
  · rintro ⟨s, ⟨h1, h2, h3⟩, e⟩
    exact ⟨s - 1, by omega, by rw [show s - 1 + 1 = s by omega]; exact ⟨h3, e⟩⟩
  · rintro ⟨j, hj, h3, e⟩
    exact ⟨j + 1, ⟨by omega, by omega, h3⟩, e⟩

/-! A row of cells of one kind, written in place: cell i holds f i -/
structure CRow (f : Nat → Value) (w : World) (g m : Nat) : Prop where
  stk : Stk NotU32 w g
  free : ∀ i, i < m → w.frozen? ⟨g, i, none⟩ = false
  val : ∀ i, i < m → w.cell? ⟨g, i, none⟩ = some (f i)
theorem CRow.keep {f : Nat → Value} {w w' : World} {g m : Nat} (h : CRow f w g m) (hb : Below w.heap.size w w') : CRow f w' g m :=
  ⟨h.stk.next hb, fun i hi => frozen_keep hb (by rw [h.val i hi]; rfl) (h.free i hi), fun i hi => (hb.cell (p := ⟨g, i, none⟩) h.stk.1).trans (h.val i hi)⟩
theorem CRow.grown {f : Nat → Value} {w w' : World} {g m : Nat} {o : Option Nat} (h : CRow f w g m) (hg : w.grownBy w' o) (hne : ∀ b, o = some b → g ≠ b) : CRow f w' g m := by
  have hb : w'.heap[g]? = w.heap[g]? := hg.block g h.stk.1 (fun e => hne _ e.symm rfl)
  refine ⟨⟨Nat.lt_of_lt_of_le h.stk.1 hg.size, fun i v hv => h.stk.2 i v ((World.cell?_of_block (a := ⟨g, i, none⟩) hb).symm.trans hv)⟩, fun i hi => (World.frozen?_of_block (a := ⟨g, i, none⟩) hb).trans (h.free i hi), fun i hi => (World.cell?_of_block (a := ⟨g, i, none⟩) hb).trans (h.val i hi)⟩
theorem CRow.set {f : Nat → Value} {w : World} {g m : Nat} (h : CRow f w g m) (k : Nat) (u : Value) (hu : NotU32 u) (f' : Nat → Value) (hf : ∀ i, i < m → f' i = if i = k then u else f i) : CRow f' (w.setCell ⟨g, k, none⟩ u) g m := by
  refine ⟨stk_put h.stk _ _ hu, fun i hi => frozen_set (h.free i hi), fun i hi => ?_⟩
  rw [hf i hi]
  by_cases e : i = k
  · subst e
    rw [if_pos rfl]
    exact World.cell?_setCell_same' _ _ _ (by rw [h.val i hi]; rfl)
  · rw [if_neg e, World.cell?_setCell_other _ _ _ _ (by simp <;> omega)]
    exact h.val i hi
theorem CRow.congr {f f' : Nat → Value} {w : World} {g m : Nat} (h : CRow f w g m) (e : ∀ i, i < m → f' i = f i) : CRow f' w g m := ⟨h.stk, h.free, fun i hi => by rw [e i hi]; exact h.val i hi⟩
theorem CRow.i32 {f : Nat → Value} {w : World} {g m k : Nat} (h : CRow f w g m) (u : Value) : I32 w (w.setCell ⟨g, k, none⟩ u) := I32.putU h.stk k u
/-- New flags. -/
theorem boolInfo : (Tryz.prog.info? 4).map (fun i => (i.zero, i.size, i.bytes)) = some (some (.bool false), 1, 1) := by kernel_rfl
theorem makeB (n : Nat) (h : n ≤ 1000000) (w : World) :
    (Instr.makeSlice 229 (.int .i64 (n : Int)) (.int .i64 (n : Int))).run Tryz.prog w = .ok (.slice (some ⟨w.heap.size, 0, none⟩) n n) (w.alloc (.cells (madeCells #[.bool false] n) 4)) := by
  obtain ⟨i, hi, hz0, hz1, hz2⟩ := info_parts boolInfo
  have hr := run_make (P := Tryz.prog) w 229 4 i _ Tryz.underlying229 hi hz0 .i64 .i64 n n (by omega) (Int.le_refl _) (by rw [hz2]; omega) (by omega)
  rw [Int.toNat_natCast, hz1, Nat.mul_one] at hr
  exact hr
theorem made1 {z : Value} {n i : Nat} {v : Value} (h : (madeCells #[z] n)[i]? = some v) : v = z := by
  unfold madeCells at h
  simp only [Array.getElem?_map, Array.getElem?_range] at h
  split at h
  · simp only [Option.map_some] at h
    injection h with h
    rw [← h]
    have h3 : i % 1 = 0 := Nat.mod_one i
    show (#[z] : Array Value)[i % 1]! = _
    rw [h3]; rfl
  · cases h
theorem CRow.made {z : Value} (hz : NotU32 z) (w : World) (n : Nat) (t : TypeId) : CRow (fun _ => z) (w.alloc (.cells (madeCells #[z] n) t)) w.heap.size n := by
  have hb := Blk.new w t (madeCells #[z] n)
  refine ⟨Stk.of hb ?_, fun i _ => hb.free_ i, fun i hi => ?_⟩
  · intro v hv
    obtain ⟨i, hi⟩ := Array.getElem?_of_mem (Array.mem_toList_iff.1 hv)
    rw [made1 hi]
    exact hz
  · rw [hb.cell_ i, Array.getElem?_eq_getElem (by rw [size_madeCells]; exact hi)]
    congr 1
    exact made1 (Array.getElem?_eq_getElem (by rw [size_madeCells]; exact hi))

/-! Points -/
def ptc (n a : Nat) : List Value := [.int .i64 ((a / n : Nat) : Int), .int .i64 ((a % n : Nat) : Int), .int .i64 1]
def OwnPt (n : Nat) (l : List Nat) (w : World) (B : Nat) (v : Value) : Prop := OwnK NotU32 w B 177 3 v l.length (l.flatMap (ptc n))
theorem OwnPt.nil (n : Nat) (w : World) (B : Nat) : OwnPt n [] w B (.slice none 0 0) := OwnK.nil _ _ _ _ _
theorem OwnPt.keep {n : Nat} {l : List Nat} {w w' : World} {B : Nat} {v : Value} (h : OwnPt n l w B v) (hb : Below w.heap.size w w') : OwnPt n l w' B v := OwnK.keep h hb
theorem OwnPt.push {n : Nat} {l : List Nat} {w' : World} {B : Nat} {v' : Value} {a : Nat} (h : OwnK NotU32 w' B 177 3 v' (l.length + 1) (l.flatMap (ptc n) ++ ptc n a)) : OwnPt n (l ++ [a]) w' B v' := by
  unfold OwnPt
  rw [List.flatMap_append, List.length_append]
  simpa using h
theorem OwnK.other {K : Value → Prop} {w : World} {B E sz n : Nat} {v : Value} {xs : List Value} (h : OwnK K w B E sz v n xs) {a : Addr} (ha : a.block < B) {u : Value} (hu : K u) : OwnK K (w.setCell a u) B E sz v n xs :=
  ⟨ownsRow_setCell_below h.1 ha u, fun g hg => stk_put (h.2 g hg) _ _ hu⟩
theorem ptInfo : (Tryz.prog.info? 177).map (fun i => (i.zero, i.size, i.bytes)) = some (some (.agg #[.int .i64 0, .int .i64 0, .int .i64 0]), 3, 24) := by kernel_rfl
/-- A list of points that is read, below B. -/
def PtL (n : Nat) (l : List Nat) (w : World) (B : Nat) (v : Value) : Prop := (l = [] ∧ ∃ a c, v = .slice a 0 c) ∨ ∃ g cap, v = .slice (some ⟨g, 0, none⟩) l.length cap ∧ g < B ∧ ∀ (j a : Nat), l[j]? = some a → w.cell? ⟨g, j * 3, none⟩ = some (.int .i64 ((a / n : Nat) : Int)) ∧ w.cell? ⟨g, j * 3 + 1, none⟩ = some (.int .i64 ((a % n : Nat) : Int)) ∧ w.cell? ⟨g, j * 3 + 2, none⟩ = some (.int .i64 1)
theorem flat_get {n : Nat} : ∀ {l : List Nat} {j a i : Nat}, l[j]? = some a → i < 3 → (l.flatMap (ptc n))[j * 3 + i]? = (ptc n a)[i]?
  | [], j, a, i, h, _ => by simp at h
  | x :: l, 0, a, i, h, hi => by
    simp at h
    subst h
    rw [List.flatMap_cons, List.getElem?_append_left (by simp [ptc]; omega), Nat.zero_mul, Nat.zero_add]
  | x :: l, j + 1, a, i, h, hi => by
    rw [List.getElem?_cons_succ] at h
    rw [List.flatMap_cons, List.getElem?_append_right (by simp [ptc]; omega)]
    have e : (j + 1) * 3 + i - (ptc n x).length = j * 3 + i := by simp [ptc]; omega
    rw [e]
    exact flat_get h hi
theorem OwnPt.ptl {n : Nat} {l : List Nat} {w : World} {B : Nat} {v : Value} (h : OwnPt n l w B v) : PtL n l w w.heap.size v := by
  rcases h.1.2 with ⟨e1, e2⟩ | ⟨g, cap, cs, e1, hB, hg, hn, hcm, hcs, _⟩
  · exact .inl ⟨List.eq_nil_of_length_eq_zero e2, _, _, e1⟩
  · have hs := h.2 g (by rw [e1]; rfl)
    have h1 := h.1
    subst e1
    refine .inr ⟨g, cap, rfl, hs.1, fun j a ha => ⟨?_, ?_, ?_⟩⟩
    · exact own_read h1 ((flat_get (i := 0) ha (by omega)).trans rfl)
    · exact own_read h1 ((flat_get (i := 1) ha (by omega)).trans rfl)
    · exact own_read h1 ((flat_get (i := 2) ha (by omega)).trans rfl)
theorem PtL.next {n : Nat} {l : List Nat} {w w' : World} {B : Nat} {v : Value} (h : PtL n l w B v) (hb : Below B w w') : PtL n l w' B v := by
  rcases h with h | ⟨g, cap, e, hg, hx⟩
  · exact .inl h
  · exact .inr ⟨g, cap, e, hg, fun j a ha => by
      obtain ⟨h0, h1, h2⟩ := hx j a ha
      exact ⟨(hb.cell (p := ⟨g, _, none⟩) hg).trans h0, (hb.cell (p := ⟨g, _, none⟩) hg).trans h1, (hb.cell (p := ⟨g, _, none⟩) hg).trans h2⟩⟩
theorem PtL.up {n : Nat} {l : List Nat} {w : World} {B B' : Nat} {v : Value} (h : PtL n l w B v) (hB : B ≤ B') : PtL n l w B' v := by
  rcases h with h | ⟨g, cap, e, hg, hx⟩
  · exact .inl h
  · exact .inr ⟨g, cap, e, Nat.lt_of_lt_of_le hg hB, hx⟩
end Go.Proofs.YthikonjlgljikaaGreatDoor
