/- The law SymbolsNil, walked: it returns true. -/
import Derived.Test.YthikonjlgljikaaDoorSf43
import Derived.Test.YthikonjlgljikaaDoorSf46
import Derived.Test.YthikonjlgljikaaDoorSf47
namespace Go.Proofs.YthikonjlgljikaaDoor
open Go.RowKit Eli

theorem wpl_appQ {W : World} {ops : Array Oper} {rest : List Oper} {o : Oper} {a : Act} {Q : Exit → Act → World → Prop} (hgd : o.guard = none) (s x : Operand)
    (ho : o.op = .call { callee := .builtin .append, args := #[s, x], argTypes := #[44, 44] }) (G : Nat → FP) (hG : ∀ j, Solid (G j)) (B B' m : Nat) (v vx : Value)
    (hs : a.eval s = v) (hown : OwnK NotInt W B 52 4 v 0 []) (hx : a.eval x = vx) (hsrc : OwnQ G W B' vx m) (hm : m ≤ 1000000) (hB : B ≤ W.heap.size)
    (h : ∀ v' w', OwnQ G w' B v' m → W.grownBy w' v.ownBlock → wpList Tryd.prog ops Q rest (a.put o.dst v') w') :
    wpList Tryd.prog ops Q (o :: rest) a W := by
  have key : ∃ v' w', (Builtin.append_ #[44, 44] o.type #[v, vx]).run Tryd.prog W = .ok v' w' ∧ OwnQ G w' B v' m ∧ W.grownBy w' v.ownBlock := by
    rcases hsrc.row with ⟨rfl, rfl⟩ | ⟨g, cap, rfl, _, hr⟩
    · obtain ⟨i0, hi, _, _, _⟩ := info_parts ratInfo
      obtain ⟨a', k, hv, hle⟩ : ∃ a' k, v = .slice a' 0 k ∧ 0 ≤ k := by
        rcases own_shape hown.1 with ⟨rfl, _, _⟩ | ⟨g', cap, rfl, _, _, hc⟩
        · exact ⟨none, 0, rfl, Nat.le_refl _⟩
        · exact ⟨_, cap, rfl, hc⟩
      have hr := run_append_nothing (P := Tryd.prog) W 44 44 o.type 52 i0 Tryd.underlying44 hi a' 0 k hle (.slice none 0 0) (Src.ofNil W Tryd.underlying44 0)
      rw [← hv] at hr
      exact ⟨v, W, hr, ⟨[], hown, fun _ hj => absurd hj (Nat.not_lt_zero _)⟩, ⟨rfl, rfl, rfl, Nat.le_refl _, fun _ _ _ => rfl⟩⟩
    · obtain ⟨v', w', hr', h1, h2⟩ := run_appN (P := Tryd.prog) NotInt W 44 o.type 52 Tryd.underlying44 ratInfo rfl (by decide) B 0 m g cap v [] (rowCells W g (m * 4)) hown (rowCells_length _ _ _) hr.cells hr.one (by omega) (by omega) hB hr.ni niz
      have h3 := OwnQ.more hG hown (fun _ hj => absurd hj (Nat.not_lt_zero _)) hr h1 h2 (F := G) (fun j _ => by rw [Nat.zero_add])
      rw [Nat.zero_add] at h3
      exact ⟨v', w', hr', h3, h2⟩
  obtain ⟨v', w', hr, h1, h2⟩ := key
  refine wpList_plain hgd fun K' hK' => ?_
  unfold Oper.wp execOp
  simp only [ho, resolve, invoke, builtin, Sem.run_bind, Sem.run_pure, Result.andThen_ok, List.map_toArray, List.map_cons, List.map_nil, hs, hx, hr]
  exact hK' _ _ (h v' w' h1 h2)
theorem OwnN.crow {F : List Nat} {w : World} {B : Nat} {v : Value} (h : OwnN F w B v) (hB : B ≤ w.heap.size) : ∃ g, B ≤ g ∧ (F.length = 0 ∨ ∃ cap, v = .slice (some ⟨g, 0, none⟩) F.length cap ∧ CRow (fun j => .int .i64 ((F.getD j 0 : Nat) : Int)) w g F.length) ∧ (F.length = 0 → g = w.heap.size) := by
  rcases Nat.eq_zero_or_pos F.length with h0 | hp
  · exact ⟨w.heap.size, hB, .inl h0, fun _ => rfl⟩
  · rcases own_shape h.1 with ⟨_, h0, _⟩ | ⟨g, cap, rfl, hg, hlt, _⟩
    · omega
    · refine ⟨g, hg, .inr ⟨cap, rfl, h.2 g rfl, fun i hi => ?_, fun i hi => ?_⟩, fun h0 => by omega⟩
      · rcases own_block h.1 with h3 | ⟨g', cs, h3, _, h4⟩
        · simp [Value.ownBlock] at h3
        · simp [Value.ownBlock] at h3
          subst h3
          exact h4.free_ i
      · exact own_read h.1 (by rw [List.getElem?_map, List.getElem?_eq_getElem hi, List.getD_eq_getElem?_getD, List.getElem?_eq_getElem hi]; rfl)
theorem OwnQ.qrow {G : Nat → FP} {w : World} {B m : Nat} {v : Value} (h : OwnQ G w B v m) (hB : B ≤ w.heap.size) : ∃ g, B ≤ g ∧ (m = 0 ∨ ∃ cap, v = .slice (some ⟨g, 0, none⟩) m cap ∧ QRow G w g m m) ∧ (m = 0 → g = w.heap.size) := by
  rcases Nat.eq_zero_or_pos m with h0 | hp
  · exact ⟨w.heap.size, hB, .inl h0, fun _ => rfl⟩
  · rcases h.row with ⟨h0, _⟩ | ⟨g, cap, rfl, hg, hr⟩
    · omega
    · exact ⟨g, hg, .inr ⟨cap, rfl, hr⟩, fun h0 => by omega⟩
theorem QL.butR {G : Nat → FP} (hG : ∀ j, Solid (G j)) {w w' : World} {v : Value} {n R : Nat} (h : QL G w v n) (h32 : I32 w w') (hg : w.grownBy w' (some R)) (hne : ∀ g o cap, v = .slice (some ⟨g, o, none⟩) n cap → g ≠ R) : QL G w' v n := by
  rcases h with h | ⟨g, o, cap, e, hlt, hc⟩
  · exact .inl h
  · have hk : ∀ j u, w.cell? ⟨g, j, none⟩ = some u → w'.cell? ⟨g, j, none⟩ = some u := fun j u e2 => hg.cell e2 (fun e3 => by injection e3 with e3; exact hne g o cap e e3)
    refine .inr ⟨g, o, cap, e, Nat.lt_of_lt_of_le hlt hg.size, fun j hj => ?_⟩
    obtain ⟨s, p, n', c, t, q, m, d, h0, h1, h2, h3, h4⟩ := hc j hj
    exact ⟨s, p, n', c, t, q, m, d, hk _ _ h0, hk _ _ h1, hk _ _ h2, hk _ _ h3, hG j _ _ _ _ _ _ _ _ _ _ h32 h4⟩
set_option maxHeartbeats 4000000 in
set_option maxRecDepth 100000 in
theorem c_lawNil_bad (N k D n0 : Int) (w : World) (hT : Tab w) (hck : Pl.check N k D ≠ 0) :
    Calls Tryd.prog 6 #[.agg #[.int .i64 N, .int .i64 k, .int .i64 D], .int .i64 n0] w fun e w' => e = .returned (.bool true) ∧ Below w.heap.size w w' := by
  have HLA := Lib.hid (fun W => c_Large_bad N k D W hck)
  have HNE := Lib.hid (fun W => c_New_check N k D W hck)
  obtain ⟨er, her⟩ : ∃ er, Pl.check N k D = er := ⟨_, rfl⟩
  rw [her] at hck HNE
  have hne : (er != 0) = true := by simpa using hck
  have HT := Lib.hid hT
  clear her hck hT
  go_enter Tryd.func6, Tryd.ntmps6
  go_wp2_with fail
  obtain ⟨w0, hw0⟩ : ∃ w0, w.alloc (.cells #[.int .i64 N, .int .i64 k, .int .i64 D] 23) = w0 := ⟨_, rfl⟩
  rw [hw0]
  obtain ⟨X0, hb0⟩ := box1 w #[.int .i64 N, .int .i64 k, .int .i64 D] 23
  rw [hw0] at X0 hb0
  refine (c_awake w0 (HT.out.below hb0)).mono ?_
  rintro e w1 ⟨rfl, hb1⟩
  have X1 := X0.below_ hb1 X0.lt
  have HB1 := Lib.hid (hb0.trans (hb1.mono hb0.size))
  have x0 := X1.at_ 0 rfl
  have x1 := X1.at_ 1 rfl
  have x2 := X1.at_ 2 rfl
  have HX1 := Lib.hid X1
  clear hw0 X0 hb0 hb1 X1
  go_wp2_with fail
  refine (HLA.out w1).mono ?_
  rintro e w2 ⟨rfl, hb2⟩
  have HX2 := Lib.hid (HX1.out.below_ hb2 HX1.out.lt)
  have HB2 := Lib.hid (HB1.out.trans (hb2.mono HB1.out.size))
  clear x0 x1 x2 hb2 HX1 HB1
  go_wp2_with fail
  refine (c_Reduce_nil n0 w2).mono ?_
  rintro e w3 ⟨rfl, hw⟩
  rw [hw]
  clear hw
  go_wp2_with fail
  refine (c_Vector_nil (.slice none 0 0) w2).mono ?_
  rintro e w3 ⟨rfl, hw⟩
  rw [hw]
  clear hw
  go_wp2_with fail
  refine (c_Matrix_nil w2).mono ?_
  rintro e w3 ⟨rfl, hb3⟩
  have HB3 := Lib.hid (HB2.out.trans (hb3.mono HB2.out.size))
  have HX3 := Lib.hid (HX2.out.below_ hb3 HX2.out.lt)
  clear hb3 HB2 HX2
  go_wp2_with fail
  obtain ⟨w4, hw4⟩ : ∃ w4, w3.alloc (.cells #[.int .i64 0, .int .i64 0, .slice none 0 0] 56) = w4 := ⟨_, rfl⟩
  obtain ⟨Y, hb4⟩ := box1 w3 #[.int .i64 0, .int .i64 0, .slice none 0 0] 56
  rw [hw4] at Y hb4 ⊢
  have HY := Lib.hid Y
  have HB4 := Lib.hid (HB3.out.trans (hb4.mono HB3.out.size))
  have HX4 := Lib.hid (HX3.out.below_ hb4 HX3.out.lt)
  clear hw4 Y hb4 HB3 HX3
  refine (c_Dim_nil w4).mono ?_
  rintro e w5 ⟨rfl, hw⟩
  rw [hw]
  clear hw
  go_wp2_with fail
  refine (c_Free_nil w4).mono ?_
  rintro e w5 ⟨rfl, hw⟩
  rw [hw]
  clear hw
  go_wp2_with fail
  refine (c_Spec_nil w4).mono ?_
  rintro e w5 ⟨rfl, hb5⟩
  have Y5 := HY.out.below_ hb5 HY.out.lt
  have HB5 := Lib.hid (HB4.out.trans (hb5.mono HB4.out.size))
  have X5 := HX4.out.below_ hb5 HX4.out.lt
  have y0 := Y5.at_ 0 rfl
  have y1 := Y5.at_ 1 rfl
  have y2 := Y5.at_ 2 rfl
  have x0 := X5.at_ 0 rfl
  have x1 := X5.at_ 1 rfl
  have x2 := X5.at_ 2 rfl
  clear hb5 Y5 X5 HY HX4 HB4
  go_wp2_with fail
  refine (HNE.out w5).mono ?_
  rintro e w6 ⟨rfl, hb6⟩
  have HB6 := Lib.hid (HB5.out.trans (hb6.mono HB5.out.size))
  clear x0 x1 x2 y0 y1 y2 hb6
  go_wp2
  go_ret
  exact ⟨rfl, HB6.out⟩
set_option maxHeartbeats 4000000 in
set_option maxRecDepth 100000 in
theorem c_lawNil_ok (n wt : Nat) (D n0 : Int) (w : World) (hT : Tab w) (hck : Pl.check n ((wt : Int) + 2) D = 0) :
    Calls Tryd.prog 6 #[.agg #[.int .i64 n, .int .i64 ((wt : Int) + 2), .int .i64 D], .int .i64 n0] w fun e w' => e = .returned (.bool true) ∧ Below w.heap.size w w' := by
  obtain ⟨h1, h2, h3, h4, h5, h6⟩ := check_zero hck
  have HLA := Lib.hid (fun W => c_Large n wt D W hck)
  have HNW := Lib.hid (fun W (hb : Below w.heap.size w W) (hC : cntF n wt ≤ 72) => c_New n wt D W (hT.below hb) hck hC)
  have HCS := Lib.hid (fun (hC : cntF n wt ≤ 72) j f => coord_size (n := n) (wt := wt) (D := D) (by omega) hC (j := j) (f := f))
  obtain ⟨C, hC⟩ : ∃ C, cntF n wt = C := ⟨_, rfl⟩
  have hC2 : (wt + 1) * (pts n (n * n)).length = C := hC
  rw [hC2] at HLA
  rw [hC] at HNW HCS
  obtain ⟨L, hL⟩ : ∃ L, elF n wt D = L := ⟨_, rfl⟩
  rw [hL] at HNW HCS
  have HT := Lib.hid hT
  clear hT hck h1 h2 h3 h4 h5 h6 hC hC2 hL
  go_enter Tryd.func6, Tryd.ntmps6
  go_wp2_with fail
  obtain ⟨w0, hw0⟩ : ∃ w0, w.alloc (.cells #[.int .i64 n, .int .i64 ((wt : Int) + 2), .int .i64 D] 23) = w0 := ⟨_, rfl⟩
  rw [hw0]
  obtain ⟨X0, hb0⟩ := box1 w #[.int .i64 n, .int .i64 ((wt : Int) + 2), .int .i64 D] 23
  rw [hw0] at X0 hb0
  refine (c_awake w0 (HT.out.below hb0)).mono ?_
  rintro e w1 ⟨rfl, hb1⟩
  have X1 := X0.below_ hb1 X0.lt
  have HB1 := Lib.hid (hb0.trans (hb1.mono hb0.size))
  have x0 := X1.at_ 0 rfl
  have x1 := X1.at_ 1 rfl
  have x2 := X1.at_ 2 rfl
  have HX1 := Lib.hid X1
  clear hw0 X0 hb0 hb1 X1
  go_wp2_with fail
  refine (HLA.out w1).mono ?_
  rintro e w2 ⟨rfl, hb2⟩
  have HX2 := Lib.hid (HX1.out.below_ hb2 HX1.out.lt)
  have HB2 := Lib.hid (HB1.out.trans (hb2.mono HB1.out.size))
  clear x0 x1 x2 hb2 HX1 HB1
  have x0 := HX2.out.at_ 0 rfl
  have x1 := HX2.out.at_ 1 rfl
  have x2 := HX2.out.at_ 2 rfl
  by_cases hbig : 72 < C
  · have hd : decide (72 < C) = true := decide_eq_true hbig
    rw [hd]
    go_wp2
    go_ret
    exact ⟨rfl, HB2.out⟩
  have hd : decide (72 < C) = false := decide_eq_false hbig
  rw [hd]
  clear hd x0 x1 x2
  go_wp2_with fail
  refine (c_Reduce_nil n0 w2).mono ?_
  rintro e w3 ⟨rfl, hw⟩
  rw [hw]
  clear hw
  go_wp2_with fail
  refine (c_Vector_nil (.slice none 0 0) w2).mono ?_
  rintro e w3 ⟨rfl, hw⟩
  rw [hw]
  clear hw
  go_wp2_with fail
  refine (c_Matrix_nil w2).mono ?_
  rintro e w3 ⟨rfl, hb3⟩
  have HB3 := Lib.hid (HB2.out.trans (hb3.mono HB2.out.size))
  have HX3 := Lib.hid (HX2.out.below_ hb3 HX2.out.lt)
  clear hb3 HB2 HX2
  go_wp2_with fail
  obtain ⟨w4, hw4⟩ : ∃ w4, w3.alloc (.cells #[.int .i64 0, .int .i64 0, .slice none 0 0] 56) = w4 := ⟨_, rfl⟩
  obtain ⟨Y, hb4⟩ := box1 w3 #[.int .i64 0, .int .i64 0, .slice none 0 0] 56
  rw [hw4] at Y hb4 ⊢
  have HY := Lib.hid Y
  have HB4 := Lib.hid (HB3.out.trans (hb4.mono HB3.out.size))
  have HX4 := Lib.hid (HX3.out.below_ hb4 HX3.out.lt)
  clear hw4 Y hb4 HB3 HX3
  refine (c_Dim_nil w4).mono ?_
  rintro e w5 ⟨rfl, hw⟩
  rw [hw]
  clear hw
  go_wp2_with fail
  refine (c_Free_nil w4).mono ?_
  rintro e w5 ⟨rfl, hw⟩
  rw [hw]
  clear hw
  go_wp2_with fail
  refine (c_Spec_nil w4).mono ?_
  rintro e w5 ⟨rfl, hb5⟩
  have Y5 := HY.out.below_ hb5 HY.out.lt
  have HB5 := Lib.hid (HB4.out.trans (hb5.mono HB4.out.size))
  have X5 := HX4.out.below_ hb5 HX4.out.lt
  have y0 := Y5.at_ 0 rfl
  have y1 := Y5.at_ 1 rfl
  have y2 := Y5.at_ 2 rfl
  have x0 := X5.at_ 0 rfl
  have x1 := X5.at_ 1 rfl
  have x2 := X5.at_ 2 rfl
  clear hb5 Y5 X5 HY HX4 HB4
  go_wp2_with fail
  refine (HNW.out w5 HB5.out (by omega)).mono ?_
  rintro e w6 ⟨⟨M, rfl, hM, hmod⟩, hb6⟩
  obtain ⟨F, hF⟩ : ∃ F, frs L C = F := ⟨_, rfl⟩
  have HFL := Lib.hid (show F.length ≤ 72 from Nat.le_trans (hF ▸ frs_length L C) (by omega))
  rw [hF] at hmod HCS
  obtain ⟨X, hX⟩ : ∃ X, crd L C C = X := ⟨_, rfl⟩
  rw [hX] at hmod HCS
  have HM6 := Lib.hid hmod
  have HB6 := Lib.hid (HB5.out.trans (hb6.mono HB5.out.size))
  have HCS := Lib.hid (show ∀ j f, j < C → f ∈ F → hq (X j f) ≤ 10000 from fun j f hj hf => Nat.le_trans (HCS.out (by omega) j f hj hf) (by omega))
  have hC100 : C ≤ 100 := by omega
  have hF100 : F.length ≤ 100 := by have := HFL.out; omega
  clear x0 x1 x2 y0 y1 y2 hM hmod hb6 hF hX HNW HLA HT HB5
  go_wp2_with fail
  refine (c_Free M w6.heap.size n ((wt : Int) + 2) D F C X w6 HM6.out (by omega)).mono ?_
  rintro e w7 ⟨⟨vf, rfl, hown7⟩, hb7⟩
  have HM7 := Lib.hid (HM6.out.keep (Nat.le_refl _) hb7)
  have HB7 := Lib.hid (HB6.out.trans (hb7.mono HB6.out.size))
  have HS7 := Lib.hid hb7.size
  obtain ⟨pf, cf, rfl⟩ := own_slice hown7.1
  have HO7 := Lib.hid hown7
  clear hown7 hb7 HM6
  go_wp2_with fail
  refine (c_Free M w6.heap.size n ((wt : Int) + 2) D F C X w7 HM7.out (by omega)).mono ?_
  rintro e w8 ⟨⟨va, rfl, hown8⟩, hb8⟩
  have HM8 := Lib.hid (HM7.out.keep HS7.out hb8)
  have HB8 := Lib.hid (HB7.out.trans (hb8.mono HB7.out.size))
  have HS8 := Lib.hid (Nat.le_trans HS7.out hb8.size)
  obtain ⟨pa, ca, rfl⟩ := own_slice hown8.1
  have hfk := HO7.out.keep hb8
  obtain ⟨gF, hgF, hcr, hgF0⟩ := hfk.crow HS8.out
  have HNA := Lib.hid (show NL F w8 w8.heap.size (.slice pa F.length ca) from hown8.nl)
  have HGA := Lib.hid (show ∀ g, (Value.slice pa F.length ca).ownBlock = some g → g ≠ gF from fun g e => by
    have h1 := own_ge hown8.1 e.symm
    have h2 := World.ownsRow.lt hown8.1 g e
    rcases hcr with h0 | ⟨cap, e2, hc⟩
    · have := hgF0 h0; omega
    · injection e2 with e2 _ _
      have h3 := World.ownsRow.lt HO7.out.1 gF (by rw [e2]; rfl)
      omega)
  have HCR := Lib.hid (show F.length = 0 ∨ pf = some ⟨gF, 0, none⟩ ∧ CRow (fun j => .int .i64 (if j < 0 then (-1 : Int) else ((F.getD j 0 : Nat) : Int))) w8 gF F.length from hcr.imp id (fun ⟨cap, e2, hc⟩ => by
    injection e2 with e2 _ _
    exact ⟨e2, hc.congr (fun i _ => by rw [if_neg (Nat.not_lt_zero i)])⟩))
  have HGF := Lib.hid hgF
  have HNLB := Lib.hid (show ∀ g, (Value.slice pa F.length ca).ownBlock = some g → g < w8.heap.size from fun g e => (World.ownsRow.lt hown8.1 g e).2)
  clear hfk hcr hgF hgF0 hown8 hb8 HO7 HM7
  go_wp2_with fail
  go_loopw [15] (fun ii wr => ∃ i : Nat, i ≤ F.length ∧ ii = .int .i64 i ∧ (F.length = 0 ∨ pf = some ⟨gF, 0, none⟩ ∧ CRow (fun j => .int .i64 (if j < i then (-1 : Int) else ((F.getD j 0 : Nat) : Int))) wr gF F.length) ∧ w8.grownBy wr (some gF) ∧ I32 w8 wr) (fun ii _ => F.length - (intOf ii).toNat)
  case atStart => exact ⟨0, Nat.zero_le _, rfl, HCR.out, but_below gF (Below.refl _ _), I32.refl _⟩
  case round =>
    obtain ⟨i, hi, rfl, hcr, hgr, h32⟩ := hrel
    obtain ⟨w9, rfl⟩ : ∃ w9 : World, w9 = wr := ⟨_, rfl⟩
    have HGR := Lib.hid hgr
    have H32 := Lib.hid h32
    clear hgr h32 HCR
    by_cases hlt : i < F.length
    · have hii : (i : Int) < (F.length : Int) := by omega
      obtain ⟨hpe, hcr2⟩ := hcr.resolve_left (by omega)
      clear hcr
      subst hpe
      have u0 := hcr2.val i hlt
      have f0 := hcr2.free i hlt
      have HC2 := Lib.hid (show CRow (fun j => .int .i64 (if j < i + 1 then (-1 : Int) else ((F.getD j 0 : Nat) : Int))) (w9.setCell ⟨gF, i, none⟩ (.int .i64 (-1))) gF F.length from hcr2.set i _ (fun _ h => by cases h) _ (fun j _ => by
        by_cases h1 : j = i
        · rw [if_pos h1, if_pos (by omega)]
        · rw [if_neg h1]
          by_cases h2 : j < i
          · rw [if_pos h2, if_pos (by omega)]
          · rw [if_neg h2, if_neg (by omega)]))
      have HG2 := Lib.hid (HGR.out.trans (but_put w9 gF i (.int .i64 (-1))))
      have H322 := Lib.hid (H32.out.trans (I32.putU hcr2.stk i (.int .i64 (-1))))
      clear hcr2
      go_wp2
      go_roundw
      case rel => exact ⟨i + 1, by omega, by go_num, .inr ⟨by trivial, HC2.out⟩, HG2.out, H322.out⟩
      case measure => simp [intOf]; omega
    · obtain rfl : F.length = i := by omega
      have hb39 : Below w6.heap.size w8 w9 := below_but (Below.refl _ _) HGR.out HS8.out HGF.out
      have HM9 := Lib.hid (HM8.out.next H32.out hb39 (Nat.le_refl _))
      have HB9 := Lib.hid (show Below w.heap.size w w9 from below_but HB8.out HGR.out HB8.out.size (Nat.le_trans HB6.out.size HGF.out))
      have HNA9 := Lib.hid ((HNA.out.but HGR.out HGA.out).up HGR.out.size)
      have HS9 := Lib.hid (Nat.le_trans HS8.out HGR.out.size)
      have HNLT := Lib.hid (show ∀ g, (Value.slice pa F.length ca).ownBlock = some g → g < w9.heap.size from fun g e => Nat.lt_of_lt_of_le (HNLB.out g e) HGR.out.size)
      clear hb39 hcr HM8 HB8 HNA HGR H32
      go_wp2_with fail
      refine (c_Matrix M w6.heap.size n ((wt : Int) + 2) D F C X w9 HM9.out HS9.out hC100 hF100 HCS.out).mono ?_
      rintro e w10 ⟨⟨vO, rfl, hO⟩, hb10⟩
      obtain ⟨m, hm⟩ : ∃ m, C * F.length = m := ⟨_, rfl⟩
      have hml : m ≤ 10000 := by rw [← hm]; exact Nat.mul_le_mul hC100 hF100
      obtain ⟨G, hG⟩ : ∃ G : Nat → FP, (fun p => IsQ (X (p / F.length) (F.getD (p % F.length) 0))) = G := ⟨_, rfl⟩
      have HGS := Lib.hid (show ∀ j, Solid (G j) from fun j => by rw [← hG]; exact IsQ.solid _)
      have HMX := Lib.hid (show ∀ W (h : ModAt W M w6.heap.size n ((wt : Int) + 2) D F C X) (hB : w6.heap.size ≤ W.heap.size), Calls Tryd.prog 22 #[.pointer (some ⟨M, 0, none⟩)] W fun e w' => (∃ v, e = .returned (.agg #[.int .i64 C, .int .i64 F.length, v]) ∧ OwnQ G w' W.heap.size v m) ∧ Below W.heap.size W w' from fun W h hB => by
        have h2 := c_Matrix M w6.heap.size n ((wt : Int) + 2) D F C X W h hB hC100 hF100 HCS.out
        rw [hm, hG] at h2
        exact h2)
      have HGQ := Lib.hid (show ∀ j, j < m → ∃ r, G j = IsQ r ∧ hq r ≤ 35184372088830 from fun j hj => by
        rw [← hG]
        have hF0 : 0 < F.length := by
          rcases Nat.eq_zero_or_pos F.length with h | h
          · rw [h, Nat.mul_zero] at hm; omega
          · exact h
        refine ⟨_, rfl, Nat.le_trans (HCS.out _ _ ?_ ?_) (by omega)⟩
        · exact Nat.div_lt_of_lt_mul (by rw [Nat.mul_comm, hm]; exact hj)
        · rw [List.getD_eq_getElem?_getD, List.getElem?_eq_getElem (Nat.mod_lt _ hF0)]; exact List.getElem_mem _)
      rw [hm, hG] at hO
      obtain ⟨pO, cO, rfl⟩ : ∃ p c, vO = .slice p m c := by
        obtain ⟨xs, h1, _⟩ := hO
        exact own_slice h1.1
      have HO10 := Lib.hid hO
      have HM10 := Lib.hid (HM9.out.keep HS9.out hb10)
      have HB10 := Lib.hid (HB9.out.trans (hb10.mono HB9.out.size))
      have HNA10 := Lib.hid ((HNA9.out.next hb10).up hb10.size)
      have HS10 := Lib.hid (Nat.le_trans HS9.out hb10.size)
      have HS910 := Lib.hid hb10.size
      clear hm hG hO hb10 HM9 HB9 HNA9 HCS
      have hbx : Below w10.heap.size w10 (w10.alloc (.cells #[.int .i64 C, .int .i64 F.length, .slice pO m cO] 56)) := (Below.refl _ _).alloc (Nat.le_refl _) _
      have hby : Below w10.heap.size w10 ((w10.alloc (.cells #[.int .i64 C, .int .i64 F.length, .slice pO m cO] 56)).alloc (.cells #[] 52)) := hbx.alloc (by simp) _
      have HSRC := Lib.hid (HO10.out.keep HGS.out hby)
      have HOWK := Lib.hid (show OwnK NotInt ((w10.alloc (.cells #[.int .i64 C, .int .i64 F.length, .slice pO m cO] 56)).alloc (.cells #[] 52)) (w10.heap.size + 1) 52 4 (.slice (some ⟨w10.heap.size + 1, 0, none⟩) 0 0) 0 [] from by
        have h1 := World.ownsRow_made (base := w10.heap.size + 1) (e := 52) (size := 4) (w10.alloc (.cells #[.int .i64 C, .int .i64 F.length, .slice pO m cO] 56)) #[] 0 (by simp) (Nat.zero_le _) rfl
        have h2 := Blk.new (w10.alloc (.cells #[.int .i64 C, .int .i64 F.length, .slice pO m cO] 56)) 52 #[]
        have e : (w10.alloc (.cells #[.int .i64 C, .int .i64 F.length, .slice pO m cO] 56)).heap.size = w10.heap.size + 1 := by simp
        rw [e] at h1 h2
        exact ⟨h1, fun g hg => by
          have : g = w10.heap.size + 1 := by simp [Value.ownBlock] at hg; omega
          subst this
          exact Stk.of h2 (by intro v hv; cases hv)⟩)
      have HSZ := Lib.hid (show ((w10.alloc (.cells #[.int .i64 C, .int .i64 F.length, .slice pO m cO] 56)).alloc (.cells #[] 52)).heap.size = w10.heap.size + 2 by simp)
      have HBOX := Lib.hid (show Blk ((w10.alloc (.cells #[.int .i64 C, .int .i64 F.length, .slice pO m cO] 56)).alloc (.cells #[] 52)) w10.heap.size 56 #[.int .i64 C, .int .i64 F.length, .slice pO m cO] from (Blk.new w10 56 _).alloc_ _)
      have HBY := Lib.hid hby
      clear hbx hby
      go_wp2_with (at_builtin; refine wpl_appQ rfl (.tmp 112) (.tmp 114) rfl G HGS.out (w10.heap.size + 1) w9.heap.size m (.slice (some ⟨w10.heap.size + 1, 0, none⟩) 0 0) (.slice pO m cO) rfl HOWK.out rfl HSRC.out (by omega) (by have := HSZ.out; omega) ?_; intro vk w11 hk11 hgr11; have HK11 := Lib.hid hk11; have HG11 := Lib.hid (show ((w10.alloc (.cells #[.int .i64 C, .int .i64 F.length, .slice pO m cO] 56)).alloc (.cells #[] 52)).grownBy w11 (some (w10.heap.size + 1)) from hgr11); clear hk11 hgr11)
      obtain ⟨bo, hbo⟩ : ∃ x, w10.heap.size = x := ⟨_, rfl⟩
      have HBO := Lib.hid hbo
      have HB1011 := Lib.hid (show Below w10.heap.size w10 w11 from below_but HBY.out HG11.out (by have := HSZ.out; omega) (by omega))
      have hbox := HG11.out.cell (HBOX.out.at_ 2 rfl) (fun e => by injection e with e; simp at e)
      obtain ⟨pk, ck, rfl⟩ : ∃ p c, vk = .slice p m c := by
        obtain ⟨xs, h1, _⟩ := HK11.out
        exact own_slice h1.1
      obtain ⟨gO, hgO, hqr, hgO0⟩ := (HO10.out.keep HGS.out HB1011.out).qrow (Nat.le_trans HS910.out HB1011.out.size)
      have HGO := Lib.hid (show gO ≠ bo ∧ w6.heap.size ≤ gO from ⟨by
        rcases hqr with h0 | ⟨cap, e, hq⟩
        · have h1 := hgO0 h0
          have h2 := HSZ.out
          have h3 := HG11.out.size
          omega
        · have h1 : gO < w10.heap.size := by
            obtain ⟨xs, h1, _⟩ := HO10.out
            injection e with e _ _
            exact (World.ownsRow.lt h1.1 gO (by rw [e]; rfl)).2
          omega, Nat.le_trans HS9.out hgO⟩)
      have HKN := Lib.hid (show ∀ g o cap, Value.slice pk m ck = .slice (some ⟨g, o, none⟩) m cap → g ≠ gO from fun g o cap e => by
        obtain ⟨xs, h1, _⟩ := HK11.out
        injection e with e _ _
        have h2 := World.ownsRow.lt h1.1 g (by rw [e]; rfl)
        rcases hqr with h0 | ⟨cap, e3, hq⟩
        · have h1 := hgO0 h0
          omega
        · have h3 : gO < w10.heap.size := by
            obtain ⟨xs, h4, _⟩ := HO10.out
            injection e3 with e3 _ _
            exact (World.ownsRow.lt h4.1 gO (by rw [e3]; rfl)).2
          omega)
      have HAN := Lib.hid (show ∀ g, (Value.slice pa F.length ca).ownBlock = some g → g ≠ gO from fun g e => by
        have h6 : g < w9.heap.size := HNLT.out g e
        omega)
      have HQR := Lib.hid (show m = 0 ∨ pO = some ⟨gO, 0, none⟩ ∧ QRow (fun j => if j < 0 then IsQ 77 else G j) w11 gO m m from hqr.imp id (fun ⟨cap, e2, hq⟩ => by
        injection e2 with e2 _ _
        exact ⟨e2, QRow.congr hq (fun i _ => by rw [if_neg (Nat.not_lt_zero i)])⟩))
      rw [hbo] at hbox HBOX ⊢
      have HBX := Lib.hid hbox
      have HKQ := Lib.hid HK11.out.ql
      have HM11 := Lib.hid (HM10.out.keep HS10.out HB1011.out)
      have HB11 := Lib.hid (HB10.out.trans (HB1011.out.mono HB10.out.size))
      have HNA11 := Lib.hid ((HNA10.out.next HB1011.out).up HB1011.out.size)
      have HS11 := Lib.hid (Nat.le_trans HS10.out HB1011.out.size)
      clear hbox hqr hgO hgO0 hbo HG11 HK11 HSRC HOWK HSZ HBOX HBY HO10 HM10 HB10 HNA10 HB1011
      go_loopw [18] (fun ii wr => ∃ i : Nat, i ≤ m ∧ ii = .int .i64 i ∧ (m = 0 ∨ pO = some ⟨gO, 0, none⟩ ∧ QRow (fun j => if j < i then IsQ 77 else G j) wr gO m m) ∧ w11.grownBy wr (some gO) ∧ I32 w11 wr) (fun ii _ => m - (intOf ii).toNat)
      case atStart => exact ⟨0, Nat.zero_le _, rfl, HQR.out, but_below gO (Below.refl _ _), I32.refl _⟩
      case round =>
        obtain ⟨i, hi, rfl, hqr, hgr, h32⟩ := hrel
        obtain ⟨we, rfl⟩ : ∃ we : World, we = wr := ⟨_, rfl⟩
        have HGR := Lib.hid hgr
        have H32 := Lib.hid h32
        have bx := HGR.out.cell HBX.out (fun e => by injection e with e; exact HGO.out.1 e.symm)
        clear hgr h32 HQR
        by_cases hlt : i < m
        · have hii : (i : Int) < (m : Int) := by omega
          obtain ⟨hpe, hqr2⟩ := hqr.resolve_left (by omega)
          clear hqr
          subst hpe
          have HQE := Lib.hid hqr2
          have HQ77 := Lib.hid (fun W => c_Q 77 W (by omega) (by omega))
          have HS1 := Lib.hid (show ∀ W, Below we.heap.size we W → W.cell? ⟨bo, 2, none⟩ = some (.slice (some ⟨gO, 0, none⟩) m cO) from fun W hb => cell_next hb bx)
          have hS0 := HS1.out _ (Below.refl _ we).drew
          have HK1 := Lib.hid (show ∀ wb, Below we.drew.heap.size we.drew wb → Below we.heap.size we wb from fun wb hb => (Below.refl _ we).drew.trans hb)
          have HSA := Lib.hid (show ∀ (W : World) (v0 v1 v2 v3 : Value), W.cell? ⟨bo, 2, none⟩ = some (.slice (some ⟨gO, 0, none⟩) m cO) → ((((W.setCell ⟨gO, i * 4, none⟩ v0).setCell ⟨gO, i * 4 + 1, none⟩ v1).setCell ⟨gO, i * 4 + 2, none⟩ v2).setCell ⟨gO, i * 4 + 3, none⟩ v3).cell? ⟨bo, 2, none⟩ = some (.slice (some ⟨gO, 0, none⟩) m cO) from fun W v0 v1 v2 v3 h => by
            have hne : gO ≠ bo := HGO.out.1
            rw [World.cell?_setCell_far _ _ _ _ (by exact hne), World.cell?_setCell_far _ _ _ _ (by exact hne), World.cell?_setCell_far _ _ _ _ (by exact hne), World.cell?_setCell_far _ _ _ _ (by exact hne)]; exact h)
          clear hqr2
          go_upto_region 24 with (fail)
          go_region_held3 (fun W => W.cell? ⟨bo, 2, none⟩ = some (.slice (some ⟨gO, 0, none⟩) m cO))
            (first | with_reducible exact hS0 | with_reducible exact HS1.out _ HB12.out | exact HSA.out _ _ _ _ _ (HS1.out _ HB12.out))
            (first
              | (go_at_call 20; (with_reducible refine (HQ77.out _).mono ?_); rintro e w12 ⟨⟨s2, p2, n2, c2, t2, q2, m2, d2, rfl, hq2⟩, hb12⟩; have HB12 := Lib.hid (HK1.out _ hb12); have hr12 := QRow.keep (fun j => (show Solid (if j < i then IsQ 77 else G j) by split <;> first | exact IsQ.solid _ | exact HGS.out j)) HQE.out HB12.out; have HR12 := Lib.hid (QRow.set (k' := m) (fun j => (show Solid (if j < i then IsQ 77 else G j) by split <;> first | exact IsQ.solid _ | exact HGS.out j)) hr12 i hlt (fun j => if j < i + 1 then IsQ 77 else G j) (show Solid (if i < i + 1 then IsQ 77 else G i) by rw [if_pos (Nat.lt_succ_self i)]; exact IsQ.solid _) (fun j h1 h2 => ⟨h1, by
                  by_cases h3 : j < i
                  · rw [if_pos h3, if_pos (by omega)]
                  · rw [if_neg h3, if_neg (by omega)]⟩) (show (fun j => if j < i + 1 then IsQ 77 else G j) i w12 s2 p2 n2 c2 t2 q2 m2 d2 by dsimp only; rw [if_pos (Nat.lt_succ_self i)]; exact hq2)); have HI12 := Lib.hid ((H32.out.trans (I32.below HB12.out)).trans (I32.put4 hr12.sts (i * 4) (i * 4 + 1) (i * 4 + 2) (i * 4 + 3) (.bool s2) (.slice p2 n2 c2) (.bool t2) (.slice q2 m2 d2) (NotInt.bool _) (NotInt.slice _ _ _) (NotInt.bool _))); have HG12 := Lib.hid ((HGR.out.trans (but_below gO HB12.out)).trans (but_put4 w12 gO (i * 4) (i * 4 + 1) (i * 4 + 2) (i * 4 + 3) (.bool s2) (.slice p2 n2 c2) (.bool t2) (.slice q2 m2 d2))); obtain ⟨u0, hu0⟩ := Option.isSome_iff_exists.1 (hr12.has (i * 4) (by omega)); obtain ⟨u1, hu1⟩ := Option.isSome_iff_exists.1 (hr12.has (i * 4 + 1) (by omega)); obtain ⟨u2, hu2⟩ := Option.isSome_iff_exists.1 (hr12.has (i * 4 + 2) (by omega)); obtain ⟨u3, hu3⟩ := Option.isSome_iff_exists.1 (hr12.has (i * 4 + 3) (by omega)); have f0 := hr12.free (i * 4) (by omega); have f1 := hr12.free (i * 4 + 1) (by omega); have f2 := hr12.free (i * 4 + 2) (by omega); have f3 := hr12.free (i * 4 + 3) (by omega); clear hr12 hq2 hb12))
          all_goals go_wp2
          all_goals go_roundw
          all_goals first
            | exact ⟨i + 1, by omega, by go_num, .inr ⟨by trivial, HR12.out⟩, HG12.out, HI12.out⟩
            | (simp [intOf]; omega)
        · obtain rfl : m = i := by omega
          have hb6e : Below w6.heap.size w11 we := below_but (Below.refl _ _) HGR.out HS11.out HGO.out.2
          have HM12 := Lib.hid (HM11.out.next H32.out hb6e (Nat.le_refl _))
          have HB12 := Lib.hid (show Below w.heap.size w we from below_but HB11.out HGR.out HB11.out.size (Nat.le_trans HB6.out.size HGO.out.2))
          have HNA12 := Lib.hid ((HNA11.out.but HGR.out HAN.out).up HGR.out.size)
          have HS12 := Lib.hid (Nat.le_trans HS11.out HGR.out.size)
          have HKQ12 := Lib.hid (QL.butR HGS.out HKQ.out H32.out HGR.out HKN.out)
          clear hb6e hqr HM11 HB11 HNA11 HKQ HGR H32
          go_wp2_with fail
          refine (HMX.out we HM12.out HS12.out).mono ?_
          rintro e w13 ⟨⟨vT, rfl, hT13⟩, hb13⟩
          have HQT := Lib.hid hT13.ql
          have HM13 := Lib.hid (HM12.out.keep HS12.out hb13)
          have HB13 := Lib.hid (HB12.out.trans (hb13.mono HB12.out.size))
          have HNA13 := Lib.hid ((HNA12.out.next hb13).up hb13.size)
          have HS13 := Lib.hid (Nat.le_trans HS12.out hb13.size)
          have HKQ13 := Lib.hid (HKQ12.out.keep HGS.out hb13)
          obtain ⟨pT, cT, rfl⟩ : ∃ p c, vT = .slice p m c := by
            obtain ⟨xs, h1, _⟩ := hT13
            exact own_slice h1.1
          clear hT13 hb13 HM12 HB12 HNA12 HKQ12
          go_wp2_with fail
          refine (c_Free M w6.heap.size n ((wt : Int) + 2) D F C X w13 HM13.out (by omega)).mono ?_
          rintro e w14 ⟨⟨v3, rfl, hown14⟩, hb14⟩
          obtain ⟨p3, c3, rfl⟩ := own_slice hown14.1
          have HN3 := Lib.hid hown14.nl
          have HB14 := Lib.hid (HB13.out.trans (hb14.mono HB13.out.size))
          have HNA14 := Lib.hid ((HNA13.out.next hb14).up hb14.size)
          have HKQ14 := Lib.hid (HKQ13.out.keep HGS.out hb14)
          have HQT14 := Lib.hid (HQT.out.keep HGS.out hb14)
          clear hown14 hb14 HM13 HB13 HNA13 HKQ13 HQT
          go_wp2_with fail
          obtain ⟨w15, hw15⟩ : ∃ w15, w14.alloc (.cells #[.int .i64 C, .int .i64 F.length, .slice pT m cT] 56) = w15 := ⟨_, rfl⟩
          obtain ⟨Z, hb15⟩ := box1 w14 #[.int .i64 C, .int .i64 F.length, .slice pT m cT] 56
          rw [hw15] at Z hb15 ⊢
          obtain ⟨bt, hbt⟩ : ∃ x, w14.heap.size = x := ⟨_, rfl⟩
          rw [hbt] at Z ⊢
          have HZT := Lib.hid (Z.at_ 2 rfl)
          have HB15 := Lib.hid (HB14.out.trans (hb15.mono HB14.out.size))
          have HNA15 := Lib.hid ((HNA14.out.next hb15).up hb15.size)
          have HN315 := Lib.hid ((HN3.out.next hb15).up hb15.size)
          have HKQ15 := Lib.hid (HKQ14.out.keep HGS.out hb15)
          have HQT15 := Lib.hid (HQT14.out.keep HGS.out hb15)
          have z2 := Z.at_ 2 rfl
          clear hw15 Z hb15 hbt HB14 HNA14 HN3 HKQ14 HQT14
          go_wp2_with fail
          go_loopw [21] (fun ii wr => ∃ i : Nat, i ≤ m ∧ ii = .int .i64 i ∧ Below w15.heap.size w15 wr) (fun ii _ => m - (intOf ii).toNat)
          case atStart => exact ⟨0, Nat.zero_le _, rfl, Below.refl _ _⟩
          case round =>
            obtain ⟨i, hi, rfl, hbe⟩ := hrel
            obtain ⟨we, rfl⟩ : ∃ we : World, we = wr := ⟨_, rfl⟩
            have HBE := Lib.hid hbe
            have z2 := cell_next hbe HZT.out
            clear hbe
            by_cases hlt : i < m
            · have hii : (i : Int) < (m : Int) := by omega
              obtain ⟨gT, oT, cT', eT, _, hT⟩ := HQT15.out.resolve_left (fun h => by omega)
              obtain ⟨gK, oK, cK', eK, _, hK⟩ := HKQ15.out.resolve_left (fun h => by omega)
              cases eT
              cases eK
              obtain ⟨r, hr, hrs⟩ := HGQ.out i hlt
              have hqt := (hT i hlt).keep (HGS.out i) HBE.out
              have hqk := (hK i hlt).keep (HGS.out i) HBE.out
              rw [hr] at hqt hqk
              obtain ⟨s, p, n5, c5, t, q, m5, d5, a0, a1, a2, a3, hx⟩ := hqt
              obtain ⟨s', p', n6, c6, t', q', m6, d6, b0, b1, b2, b3, hy⟩ := hqk
              have HC := Lib.hid (c_SameRat s p n5 c5 t q m5 d5 r s' p' n6 c6 t' q' m6 d6 r we.drew ((show Qs we s p n5 c5 t q m5 d5 r from hx).keep (Below.refl _ we).drew) ((show Qs we s' p' n6 c6 t' q' m6 d6 r from hy).keep (Below.refl _ we).drew) hrs)
              simp only [decide_true] at HC
              have HS1 := Lib.hid (show ∀ W, Below we.heap.size we W → (W.cell? ⟨bt, 2, none⟩ = some (.slice (some ⟨gT, oT, none⟩) m cT) ∧ W.cell? ⟨gT, oT + i * 4, none⟩ = some (.bool s) ∧ W.cell? ⟨gT, oT + i * 4 + 1, none⟩ = some (.slice p n5 c5) ∧ W.cell? ⟨gT, oT + i * 4 + 2, none⟩ = some (.bool t) ∧ W.cell? ⟨gT, oT + i * 4 + 3, none⟩ = some (.slice q m5 d5) ∧ W.cell? ⟨gK, oK + i * 4, none⟩ = some (.bool s') ∧ W.cell? ⟨gK, oK + i * 4 + 1, none⟩ = some (.slice p' n6 c6) ∧ W.cell? ⟨gK, oK + i * 4 + 2, none⟩ = some (.bool t') ∧ W.cell? ⟨gK, oK + i * 4 + 3, none⟩ = some (.slice q' m6 d6)) from fun W hb => ⟨cell_next hb z2, cell_next hb a0, cell_next hb a1, cell_next hb a2, cell_next hb a3, cell_next hb b0, cell_next hb b1, cell_next hb b2, cell_next hb b3⟩)
              have hS0 := HS1.out _ (Below.refl _ we).drew
              have HK1 := Lib.hid (show ∀ wb, Below we.drew.heap.size we.drew wb → Below we.heap.size we wb from fun wb hb => (Below.refl _ we).drew.trans hb)
              clear hT hK hr hrs hx hy a0 a1 a2 a3 b0 b1 b2 b3
              go_upto_region 31 with (fail)
              go_region_held3 (fun W => W.cell? ⟨bt, 2, none⟩ = some (.slice (some ⟨gT, oT, none⟩) m cT) ∧ W.cell? ⟨gT, oT + i * 4, none⟩ = some (.bool s) ∧ W.cell? ⟨gT, oT + i * 4 + 1, none⟩ = some (.slice p n5 c5) ∧ W.cell? ⟨gT, oT + i * 4 + 2, none⟩ = some (.bool t) ∧ W.cell? ⟨gT, oT + i * 4 + 3, none⟩ = some (.slice q m5 d5) ∧ W.cell? ⟨gK, oK + i * 4, none⟩ = some (.bool s') ∧ W.cell? ⟨gK, oK + i * 4 + 1, none⟩ = some (.slice p' n6 c6) ∧ W.cell? ⟨gK, oK + i * 4 + 2, none⟩ = some (.bool t') ∧ W.cell? ⟨gK, oK + i * 4 + 3, none⟩ = some (.slice q' m6 d6))
                (first | with_reducible exact hS0 | with_reducible exact HS1.out _ HB16.out)
                (first
                  | (go_at_call 19; (with_reducible refine HC.out.mono ?_); rintro e w16 ⟨rfl, hb16⟩; have HB16 := Lib.hid (HK1.out _ hb16)))
              all_goals go_wp2
              all_goals go_roundw
              all_goals first
                | exact ⟨i + 1, by omega, by go_num, HBE.out.trans (HB16.out.mono HBE.out.size)⟩
                | (simp [intOf]; omega)
            · obtain rfl : m = i := by omega
              have HB16 := Lib.hid (HB15.out.trans (HBE.out.mono HB15.out.size))
              have HI1 := Lib.hid ((HNA15.out.next HBE.out).up HBE.out.size)
              have HI2 := Lib.hid ((HN315.out.next HBE.out).up HBE.out.size)
              go_wp2_with fail
              refine (c_Ints_eq _ _ F we HI1.out HI2.out).mono ?_
              rintro e w17 ⟨rfl, k, rfl⟩
              have HB17 := Lib.hid (below_drewN' HB16.out k)
              go_wp2
              go_ret
              exact ⟨rfl, HB17.out⟩
theorem c_lawNil (N k D n0 : Int) (w : World) (hT : Tab w) :
    Calls Tryd.prog 6 #[.agg #[.int .i64 N, .int .i64 k, .int .i64 D], .int .i64 n0] w fun e w' => e = .returned (.bool true) ∧ Below w.heap.size w w' := by
  by_cases hck : Pl.check N k D = 0
  · obtain ⟨h1, h2, h3, h4, _, _⟩ := check_zero hck
    obtain ⟨n, rfl⟩ : ∃ n : Nat, N = n := ⟨N.toNat, by omega⟩
    obtain ⟨wt, rfl⟩ : ∃ wt : Nat, k = (wt : Int) + 2 := ⟨(k - 2).toNat, by omega⟩
    exact c_lawNil_ok n wt D n0 w hT hck
  · exact c_lawNil_bad N k D n0 w hT hck
end Go.Proofs.YthikonjlgljikaaDoor
