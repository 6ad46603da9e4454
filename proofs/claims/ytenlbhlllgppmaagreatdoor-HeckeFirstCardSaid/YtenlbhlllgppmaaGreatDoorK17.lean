/- Contracts of rational: Sign, Add. -/
import Derived.Test.YtenlbhlllgppmaaGreatDoorK16
import Derived.Laws.AppendOwnNone
set_option maxRecDepth 100000
set_option maxHeartbeats 8000000
namespace Go.Proofs.YtenlbhlllgppmaaGreatDoor
open Go.RowKit
abbrev C4_0 (B:Nat) (w0 w:World) (a0 a1 a2 a3:Addr) (v0 v1 v2 v3:Value):Prop:=w.cell? a0=some v0∧w.cell? a1=some v1∧w.cell? a2=some v2∧w.cell? a3=some v3∧Below B w0 w∧B≤w.heap.size
theorem S4_0_next {B:Nat} {w0 w w':World} {a0 a1 a2 a3:Addr} {v0 v1 v2 v3:Value} (hb:Below w.heap.size w w') (h:C4_0 B w0 w a0 a1 a2 a3 v0 v1 v2 v3):C4_0 B w0 w' a0 a1 a2 a3 v0 v1 v2 v3:=SS.next (B:=B) (w0:=w0) (l:=[(a0,v0),(a1,v1),(a2,v2),(a3,v3)]) (m:=[]) hb h
theorem S4_0_below {B:Nat} {w0 w:World} {a0 a1 a2 a3:Addr} {v0 v1 v2 v3:Value} (h:C4_0 B w0 w a0 a1 a2 a3 v0 v1 v2 v3):Below B w0 w:=SS.below (B:=B) (w0:=w0) (l:=[(a0,v0),(a1,v1),(a2,v2),(a3,v3)]) (m:=[]) h
abbrev C8_0 (B:Nat) (w0 w:World) (a0 a1 a2 a3 a4 a5 a6 a7:Addr) (v0 v1 v2 v3 v4 v5 v6 v7:Value):Prop:=w.cell? a0=some v0∧w.cell? a1=some v1∧w.cell? a2=some v2∧w.cell? a3=some v3∧w.cell? a4=some v4∧w.cell? a5=some v5∧w.cell? a6=some v6∧w.cell? a7=some v7∧Below B w0 w∧B≤w.heap.size
theorem S8_0_next {B:Nat} {w0 w w':World} {a0 a1 a2 a3 a4 a5 a6 a7:Addr} {v0 v1 v2 v3 v4 v5 v6 v7:Value} (hb:Below w.heap.size w w') (h:C8_0 B w0 w a0 a1 a2 a3 a4 a5 a6 a7 v0 v1 v2 v3 v4 v5 v6 v7):C8_0 B w0 w' a0 a1 a2 a3 a4 a5 a6 a7 v0 v1 v2 v3 v4 v5 v6 v7:=SS.next (B:=B) (w0:=w0) (l:=[(a0,v0),(a1,v1),(a2,v2),(a3,v3),(a4,v4),(a5,v5),(a6,v6),(a7,v7)]) (m:=[]) hb h
theorem S8_0_below {B:Nat} {w0 w:World} {a0 a1 a2 a3 a4 a5 a6 a7:Addr} {v0 v1 v2 v3 v4 v5 v6 v7:Value} (h:C8_0 B w0 w a0 a1 a2 a3 a4 a5 a6 a7 v0 v1 v2 v3 v4 v5 v6 v7):Below B w0 w:=SS.below (B:=B) (w0:=w0) (l:=[(a0,v0),(a1,v1),(a2,v2),(a3,v3),(a4,v4),(a5,v5),(a6,v6),(a7,v7)]) (m:=[]) h
abbrev C6_4 (B:Nat) (w0 w:World) (a0 a1 a2 a3 a4 a5 b0 b1 b2 b3:Addr) (v0 v1 v2 v3 v4 v5:Value):Prop:=w.cell? a0=some v0∧w.cell? a1=some v1∧w.cell? a2=some v2∧w.cell? a3=some v3∧w.cell? a4=some v4∧w.cell? a5=some v5∧w.cell? b0=some (cellOf w b0)∧w.frozen? b0=false∧Sts w b0.block∧w.cell? b1=some (cellOf w b1)∧w.frozen? b1=false∧Sts w b1.block∧w.cell? b2=some (cellOf w b2)∧w.frozen? b2=false∧Sts w b2.block∧w.cell? b3=some (cellOf w b3)∧w.frozen? b3=false∧Sts w b3.block∧Below B w0 w∧B≤w.heap.size
theorem S6_4_next {B:Nat} {w0 w w':World} {a0 a1 a2 a3 a4 a5 b0 b1 b2 b3:Addr} {v0 v1 v2 v3 v4 v5:Value} (hb:Below w.heap.size w w') (h:C6_4 B w0 w a0 a1 a2 a3 a4 a5 b0 b1 b2 b3 v0 v1 v2 v3 v4 v5):C6_4 B w0 w' a0 a1 a2 a3 a4 a5 b0 b1 b2 b3 v0 v1 v2 v3 v4 v5:=SS.next (B:=B) (w0:=w0) (l:=[(a0,v0),(a1,v1),(a2,v2),(a3,v3),(a4,v4),(a5,v5)]) (m:=[b0,b1,b2,b3]) hb h
theorem S6_4_below {B:Nat} {w0 w:World} {a0 a1 a2 a3 a4 a5 b0 b1 b2 b3:Addr} {v0 v1 v2 v3 v4 v5:Value} (h:C6_4 B w0 w a0 a1 a2 a3 a4 a5 b0 b1 b2 b3 v0 v1 v2 v3 v4 v5):Below B w0 w:=SS.below (B:=B) (w0:=w0) (l:=[(a0,v0),(a1,v1),(a2,v2),(a3,v3),(a4,v4),(a5,v5)]) (m:=[b0,b1,b2,b3]) h
theorem S6_4_end {B:Nat} {w0 w w':World} {a0 a1 a2 a3 a4 a5 b0 b1 b2 b3:Addr} {v0 v1 v2 v3 v4 v5:Value} (hb:Below w.heap.size w w') (h:C6_4 B w0 w a0 a1 a2 a3 a4 a5 b0 b1 b2 b3 v0 v1 v2 v3 v4 v5):((w'.cell? b0).isSome=true∧Sts w' b0.block)∧((w'.cell? b1).isSome=true∧Sts w' b1.block)∧((w'.cell? b2).isSome=true∧Sts w' b2.block)∧((w'.cell? b3).isSome=true∧Sts w' b3.block):=⟨SS.end_ (B:=B) (w0:=w0) (l:=[(a0,v0),(a1,v1),(a2,v2),(a3,v3),(a4,v4),(a5,v5)]) (m:=[b0,b1,b2,b3]) hb h (by simp),SS.end_ (B:=B) (w0:=w0) (l:=[(a0,v0),(a1,v1),(a2,v2),(a3,v3),(a4,v4),(a5,v5)]) (m:=[b0,b1,b2,b3]) hb h (by simp),SS.end_ (B:=B) (w0:=w0) (l:=[(a0,v0),(a1,v1),(a2,v2),(a3,v3),(a4,v4),(a5,v5)]) (m:=[b0,b1,b2,b3]) hb h (by simp),SS.end_ (B:=B) (w0:=w0) (l:=[(a0,v0),(a1,v1),(a2,v2),(a3,v3),(a4,v4),(a5,v5)]) (m:=[b0,b1,b2,b3]) hb h (by simp)⟩
theorem S6_4_put {B:Nat} {w0 w:World} {a0 a1 a2 a3 a4 a5 b0 b1 b2 b3:Addr} {v0 v1 v2 v3 v4 v5:Value} (h:C6_4 B w0 w a0 a1 a2 a3 a4 a5 b0 b1 b2 b3 v0 v1 v2 v3 v4 v5) {p0 p1 p2 p3:Addr} {u0 u1 u2 u3:Value} (hi0:NotInt u0) (hp0:B≤p0.block) (hn0_0:p0.block≠a0.block) (hn0_1:p0.block≠a1.block) (hn0_2:p0.block≠a2.block) (hn0_3:p0.block≠a3.block) (hn0_4:p0.block≠a4.block) (hn0_5:p0.block≠a5.block) (hi1:NotInt u1) (hp1:B≤p1.block) (hn1_0:p1.block≠a0.block) (hn1_1:p1.block≠a1.block) (hn1_2:p1.block≠a2.block) (hn1_3:p1.block≠a3.block) (hn1_4:p1.block≠a4.block) (hn1_5:p1.block≠a5.block) (hi2:NotInt u2) (hp2:B≤p2.block) (hn2_0:p2.block≠a0.block) (hn2_1:p2.block≠a1.block) (hn2_2:p2.block≠a2.block) (hn2_3:p2.block≠a3.block) (hn2_4:p2.block≠a4.block) (hn2_5:p2.block≠a5.block) (hi3:NotInt u3) (hp3:B≤p3.block) (hn3_0:p3.block≠a0.block) (hn3_1:p3.block≠a1.block) (hn3_2:p3.block≠a2.block) (hn3_3:p3.block≠a3.block) (hn3_4:p3.block≠a4.block) (hn3_5:p3.block≠a5.block):C6_4 B w0 ((((w.setCell p0 u0).setCell p1 u1).setCell p2 u2).setCell p3 u3) a0 a1 a2 a3 a4 a5 b0 b1 b2 b3 v0 v1 v2 v3 v4 v5:=(SS.put (B:=B) (w0:=w0) (l:=[(a0,v0),(a1,v1),(a2,v2),(a3,v3),(a4,v4),(a5,v5)]) (m:=[b0,b1,b2,b3]) (SS.put (B:=B) (w0:=w0) (l:=[(a0,v0),(a1,v1),(a2,v2),(a3,v3),(a4,v4),(a5,v5)]) (m:=[b0,b1,b2,b3]) (SS.put (B:=B) (w0:=w0) (l:=[(a0,v0),(a1,v1),(a2,v2),(a3,v3),(a4,v4),(a5,v5)]) (m:=[b0,b1,b2,b3]) (SS.put (B:=B) (w0:=w0) (l:=[(a0,v0),(a1,v1),(a2,v2),(a3,v3),(a4,v4),(a5,v5)]) (m:=[b0,b1,b2,b3]) h p0 u0 hi0 hp0 (by simp[*])) p1 u1 hi1 hp1 (by simp[*])) p2 u2 hi2 hp2 (by simp[*])) p3 u3 hi3 hp3 (by simp[*]))
def RetSg (e:Ending) (r:Rat):Prop:=∃ g:Int,e=.returned (.int .i64 g)∧(g=0↔r=0)
theorem divInt_zero_iff {x y:Int} (hy:y≠0):Rat.divInt x y=0↔x=0:=by
 have h:=Rat.divInt_eq_divInt_iff (n₁:=x) (n₂:=0) hy (show(1:Int)≠0 by decide)
 rw[over_zero]at h
 rw[h];simp
theorem sign_bound (x:Int):-1≤Int.sign x∧Int.sign x≤1∧(Int.sign x=0↔x=0):=by
 rcases Int.lt_trichotomy x 0 with h|h|h
 ·rw[Int.sign_eq_neg_one_of_neg h];omega
 ·subst h;decide
 ·rw[Int.sign_eq_one_of_pos h];omega
theorem sign_mul_zero (x y:Int):Int.sign x*Int.sign y=0↔Rat.divInt x y=0:=by
 by_cases hy:y=0
 ·subst hy;simp
 ·rw[divInt_zero_iff hy,Int.mul_eq_zero,(sign_bound x).2.2,(sign_bound y).2.2]
  exact⟨fun h=>h.resolve_right hy,Or.inl⟩
theorem mul_bound {a b:Int} (h1:-1≤a) (h2:a≤1) (h3:-1≤b) (h4:b≤1):-1≤a*b∧a*b≤1:=by
 have ha:a=-1∨a=0∨a=1:=by omega
 rcases ha with rfl|rfl|rfl <;> omega
theorem c_qSign (s:Bool) (p:Option Addr) (n c:Nat) (x:Int) (t:Bool) (q:Option Addr) (m d:Nat) (y:Int) (w:World) (h1:Zr w s p n c x) (h2:Zr w t q m d y) (hn:n≤4398046511100) (hm:m≤4398046511100):
  Calls Tryz.prog 97 #[.agg #[.bool s,.slice p n c,.bool t,.slice q m d]] w fun e w'=>RetSg e (Rat.divInt x y)∧Below w.heap.size w w':=by
 have hC1:=fun w1 (hb:Below w.heap.size w w1)=>c_Sign s p n c x w1 (h1.keep hb) (by omega)
 have hC2:=fun w1 (hb:Below w.heap.size w w1)=>c_Sign t q m d y w1 (h2.keep hb) (by omega)
 have hz:=sign_mul_zero x y
 obtain⟨b1,b2,_⟩:=sign_bound x
 obtain⟨b3,b4,_⟩:=sign_bound y
 have hmb:=mul_bound b1 b2 b3 b4
 generalize Int.sign x=gx at *
 generalize Int.sign y=gy at *
 obtain⟨g,hg⟩:∃ g,gx*gy=g:=⟨_,rfl⟩
 rw[hg]at hz hmb
 obtain⟨g1,g2⟩:=hmb
 have HC1:=Kh hC1
 have HC2:=Kh hC2
 have HZ:=Kh hz
 have hgw:IntKind.i64.wrap (gx*gy)=g:=by rw[hg];exact IntWalk.i64_in _ (by omega)
 clear hC1 hC2 hz h1 h2 b1 b2 b3 b4
 go_enter Tryz.func97,Tryz.ntmps97
 go_upto_region 1 with(fail)
 obtain⟨w0,hw0,X0,hb0⟩:=bx1 w #[.bool s,.slice p n c,.bool t,.slice q m d] 86
 rw[hw0]
 have hs0:w.heap.size≤w0.heap.size:=hb0.size
 clear hw0
 have M1:True:=trivial
 have hS0:=S4_0_next (Below.refl _ w0).drew ⟨X0.c0,X0.c1,X0.c2,X0.c3,hb0,hs0⟩
 clear X0
 go_region_held3 (fun w1=>w1.cell? ⟨w.heap.size,0,none⟩=some (.bool s)∧w1.cell? ⟨w.heap.size,1,none⟩=some (.slice p n c)∧w1.cell? ⟨w.heap.size,2,none⟩=some (.bool t)∧w1.cell? ⟨w.heap.size,3,none⟩=some (.slice q m d)∧Below w.heap.size w w1∧w.heap.size≤w1.heap.size)
  (first|with_reducible exact hS0 |(refine S4_0_next (by with_reducible assumption) ?_;assumption) |(refine S4_0_put ?_  <;> first|assumption|exact NotInt.bool _|exact NotInt.slice _ _ _ |(dsimp only;omega) |(simp;done)))
  (first
   |(go_at_call 79;clear M1;refine(HC1.out _ (S4_0_below (by with_reducible assumption))).mono ?_;rintro e w2 ⟨rfl,hb2⟩)
   |(go_at_call 79;refine(HC2.out _ (S4_0_below (by with_reducible assumption))).mono ?_;rintro e w3 ⟨rfl,hb3⟩;clear hb2))
 go_wp2
 go_ret
 exact⟨⟨g,by show Ending.returned (Value.int .i64 (IntKind.i64.wrap g))=_;rw[IntWalk.i64_in _ (by omega)],HZ.out⟩,S4_0_below (by assumption)⟩
theorem SS.alloc {B:Nat} {w0 w:World} {l:List (Addr×Value)} (h:SS B w0 w l []) (o:Obj):SS B w0 (w.alloc o) l []:=SS.next ((Below.refl _ _).alloc (Nat.le_refl _) o) h
theorem SS.sizeLe {B:Nat} {w0 w:World} {l:List (Addr×Value)} (h:SS B w0 w l []):B≤w.heap.size:=by
 induction l with
 | nil=>exact h.2
 | cons x l ih=>exact ih h.2
theorem SS.lt {B:Nat} {w0 w:World} {l:List (Addr×Value)} (h:SS B w0 w l []):∀ x∈l,x.1.block<w.heap.size:=by
 induction l with
 | nil=>intro x hx;cases hx
 | cons y l ih=>
  intro x hx
  rcases List.mem_cons.1 hx with rfl|hx
  ·exact World.block_lt_of_cell? w x.1 h.1
  ·exact ih h.2 x hx
theorem SS.fresh {B:Nat} {w0 w:World} {l:List (Addr×Value)} (h:SS B w0 w l []) (o:Obj) (v u:Value) (hv:NotInt v) (hu:NotInt u):SS B w0 (((w.alloc o).setCell ⟨w.heap.size,0,none⟩ v).setCell ⟨w.heap.size,1,none⟩ u) l []:=by
 have h1:=h.alloc o
 have hne:∀ x∈l,w.heap.size≠x.1.block:=fun x hx=>by have:=h.lt x hx;omega
 exact(h1.put ⟨w.heap.size,0,none⟩ v hv h.sizeLe hne).put ⟨w.heap.size,1,none⟩ u hu h.sizeLe hne
theorem S8_0_alloc {B:Nat} {w0 w:World} {a0 a1 a2 a3 a4 a5 a6 a7:Addr} {v0 v1 v2 v3 v4 v5 v6 v7:Value} (h:C8_0 B w0 w a0 a1 a2 a3 a4 a5 a6 a7 v0 v1 v2 v3 v4 v5 v6 v7) (o:Obj):(w.alloc o).cell? a0=some v0∧(w.alloc o).cell? a1=some v1∧(w.alloc o).cell? a2=some v2∧(w.alloc o).cell? a3=some v3∧(w.alloc o).cell? a4=some v4∧(w.alloc o).cell? a5=some v5∧(w.alloc o).cell? a6=some v6∧(w.alloc o).cell? a7=some v7∧Below B w0 (w.alloc o)∧B≤(w.alloc o).heap.size:=SS.alloc (B:=B) (w0:=w0) (l:=[(a0,v0),(a1,v1),(a2,v2),(a3,v3),(a4,v4),(a5,v5),(a6,v6),(a7,v7)]) h o
theorem S8_0_fresh {B:Nat} {w0 w:World} {a0 a1 a2 a3 a4 a5 a6 a7:Addr} {v0 v1 v2 v3 v4 v5 v6 v7:Value} (h:C8_0 B w0 w a0 a1 a2 a3 a4 a5 a6 a7 v0 v1 v2 v3 v4 v5 v6 v7) (o:Obj) (v u:Value) (hv:NotInt v) (hu:NotInt u):(((w.alloc o).setCell ⟨w.heap.size,0,none⟩ v).setCell ⟨w.heap.size,1,none⟩ u).cell? a0=some v0∧(((w.alloc o).setCell ⟨w.heap.size,0,none⟩ v).setCell ⟨w.heap.size,1,none⟩ u).cell? a1=some v1∧(((w.alloc o).setCell ⟨w.heap.size,0,none⟩ v).setCell ⟨w.heap.size,1,none⟩ u).cell? a2=some v2∧(((w.alloc o).setCell ⟨w.heap.size,0,none⟩ v).setCell ⟨w.heap.size,1,none⟩ u).cell? a3=some v3∧(((w.alloc o).setCell ⟨w.heap.size,0,none⟩ v).setCell ⟨w.heap.size,1,none⟩ u).cell? a4=some v4∧(((w.alloc o).setCell ⟨w.heap.size,0,none⟩ v).setCell ⟨w.heap.size,1,none⟩ u).cell? a5=some v5∧(((w.alloc o).setCell ⟨w.heap.size,0,none⟩ v).setCell ⟨w.heap.size,1,none⟩ u).cell? a6=some v6∧(((w.alloc o).setCell ⟨w.heap.size,0,none⟩ v).setCell ⟨w.heap.size,1,none⟩ u).cell? a7=some v7∧Below B w0 (((w.alloc o).setCell ⟨w.heap.size,0,none⟩ v).setCell ⟨w.heap.size,1,none⟩ u)∧B≤(((w.alloc o).setCell ⟨w.heap.size,0,none⟩ v).setCell ⟨w.heap.size,1,none⟩ u).heap.size:=SS.fresh (B:=B) (w0:=w0) (l:=[(a0,v0),(a1,v1),(a2,v2),(a3,v3),(a4,v4),(a5,v5),(a6,v6),(a7,v7)]) h o v u hv hu
theorem S8_0_size {B:Nat} {w0 w:World} {a0 a1 a2 a3 a4 a5 a6 a7:Addr} {v0 v1 v2 v3 v4 v5 v6 v7:Value} (h:C8_0 B w0 w a0 a1 a2 a3 a4 a5 a6 a7 v0 v1 v2 v3 v4 v5 v6 v7):B≤w.heap.size:=SS.sizeLe (B:=B) (w0:=w0) (l:=[(a0,v0),(a1,v1),(a2,v2),(a3,v3),(a4,v4),(a5,v5),(a6,v6),(a7,v7)]) h
theorem S8_0_put2 {B:Nat} {w0 w:World} {a0 a1 a2 a3 a4 a5 a6 a7:Addr} {v0 v1 v2 v3 v4 v5 v6 v7:Value} (h:C8_0 B w0 w a0 a1 a2 a3 a4 a5 a6 a7 v0 v1 v2 v3 v4 v5 v6 v7) {p0 p1:Addr} {u0 u1:Value} (hi0:NotInt u0) (hp0:B≤p0.block) (hn0_0:p0.block≠a0.block) (hn0_1:p0.block≠a1.block) (hn0_2:p0.block≠a2.block) (hn0_3:p0.block≠a3.block) (hn0_4:p0.block≠a4.block) (hn0_5:p0.block≠a5.block) (hn0_6:p0.block≠a6.block) (hn0_7:p0.block≠a7.block) (hi1:NotInt u1) (hp1:B≤p1.block) (hn1_0:p1.block≠a0.block) (hn1_1:p1.block≠a1.block) (hn1_2:p1.block≠a2.block) (hn1_3:p1.block≠a3.block) (hn1_4:p1.block≠a4.block) (hn1_5:p1.block≠a5.block) (hn1_6:p1.block≠a6.block) (hn1_7:p1.block≠a7.block):((w.setCell p0 u0).setCell p1 u1).cell? a0=some v0∧((w.setCell p0 u0).setCell p1 u1).cell? a1=some v1∧((w.setCell p0 u0).setCell p1 u1).cell? a2=some v2∧((w.setCell p0 u0).setCell p1 u1).cell? a3=some v3∧((w.setCell p0 u0).setCell p1 u1).cell? a4=some v4∧((w.setCell p0 u0).setCell p1 u1).cell? a5=some v5∧((w.setCell p0 u0).setCell p1 u1).cell? a6=some v6∧((w.setCell p0 u0).setCell p1 u1).cell? a7=some v7∧Below B w0 ((w.setCell p0 u0).setCell p1 u1)∧B≤((w.setCell p0 u0).setCell p1 u1).heap.size:=(SS.put (B:=B) (w0:=w0) (l:=[(a0,v0),(a1,v1),(a2,v2),(a3,v3),(a4,v4),(a5,v5),(a6,v6),(a7,v7)]) (m:=[]) (SS.put (B:=B) (w0:=w0) (l:=[(a0,v0),(a1,v1),(a2,v2),(a3,v3),(a4,v4),(a5,v5),(a6,v6),(a7,v7)]) (m:=[]) h p0 u0 hi0 hp0 (by simp[*])) p1 u1 hi1 hp1 (by simp[*]))
theorem fresh_after {W w':World} {B:Nat} (hB:B≤W.heap.size) (hb:Below (W.alloc (.cells #[.bool false,.slice none 0 0] 84)).heap.size (W.alloc (.cells #[.bool false,.slice none 0 0] 84)) w'):
  B≤W.heap.size∧w'.cell? ⟨W.heap.size,0,none⟩=some (.bool false)∧w'.cell? ⟨W.heap.size,1,none⟩=some (.slice none 0 0)∧w'.frozen? ⟨W.heap.size,0,none⟩=false∧w'.frozen? ⟨W.heap.size,1,none⟩=false∧Blk w' W.heap.size 84 #[.bool false,.slice none 0 0]:=by
 have h:=(Blk.new W 84 #[.bool false,.slice none 0 0]).below_ hb (by simp)
 exact⟨hB,h.at_ 0 rfl,h.at_ 1 rfl,h.free_ 0,h.free_ 1,h⟩
theorem fresh_at {W w':World} {B g:Nat} (hg:W.heap.size=g) (hB:B≤g) (hb:Below (W.alloc (.cells #[.bool false,.slice none 0 0] 84)).heap.size (W.alloc (.cells #[.bool false,.slice none 0 0] 84)) w'):
  B≤g∧w'.cell? ⟨g,0,none⟩=some (.bool false)∧w'.cell? ⟨g,1,none⟩=some (.slice none 0 0)∧w'.frozen? ⟨g,0,none⟩=false∧w'.frozen? ⟨g,1,none⟩=false∧Blk w' g 84 #[.bool false,.slice none 0 0]:=by
 subst hg;exact fresh_after hB hb
theorem fresh_next {w w':World} {B g:Nat} (hb:Below w.heap.size w w') (h:B≤g∧w.cell? ⟨g,0,none⟩=some (.bool false)∧w.cell? ⟨g,1,none⟩=some (.slice none 0 0)∧w.frozen? ⟨g,0,none⟩=false∧w.frozen? ⟨g,1,none⟩=false∧Blk w g 84 #[.bool false,.slice none 0 0]):
  B≤g∧w'.cell? ⟨g,0,none⟩=some (.bool false)∧w'.cell? ⟨g,1,none⟩=some (.slice none 0 0)∧w'.frozen? ⟨g,0,none⟩=false∧w'.frozen? ⟨g,1,none⟩=false∧Blk w' g 84 #[.bool false,.slice none 0 0]:=by
 have hB0:=h.1
 have h:=h.2.2.2.2.2.below_ hb h.2.2.2.2.2.lt
 exact⟨hB0,h.at_ 0 rfl,h.at_ 1 rfl,h.free_ 0,h.free_ 1,h⟩
theorem c_qAdd (s:Bool) (p:Option Addr) (n c:Nat) (x:Int) (t:Bool) (q:Option Addr) (m d:Nat) (y:Int) (s':Bool) (p':Option Addr) (n' c':Nat) (x':Int) (t':Bool) (q':Option Addr) (m' d':Nat) (y':Int) (w:World) (h1:Zr w s p n c x) (h2:Zr w t q m d y) (h3:Zr w s' p' n' c' x') (h4:Zr w t' q' m' d' y') (hn:n≤1099511627770) (hm:m≤1099511627770) (hn':n'≤1099511627770) (hm':m'≤1099511627770) (hy:y≠0) (hy':y'≠0):
  Calls Tryz.prog 39 #[.agg #[.bool s,.slice p n c,.bool t,.slice q m d],.agg #[.bool s',.slice p' n' c',.bool t',.slice q' m' d']] w fun e w'=>RetQ w' e (Rat.divInt x y+Rat.divInt x' y')∧Below w.heap.size w w':=by
 have HV:=Kh (Rat.divInt_add_divInt x x' hy hy')
 have HZ1:=Kh h1
 have HZ2:=Kh h2
 have HZ3:=Kh h3
 have HZ4:=Kh h4
 have hg1:=(sign_bound y).2.2
 have hg2:=(sign_bound y').2.2
 have hC1:=fun w1 (hb:Below w.heap.size w w1)=>c_Sign t q m d y w1 (h2.keep hb) (by omega)
 have hC2:=fun w1 (hb:Below w.heap.size w w1)=>c_Sign t' q' m' d' y' w1 (h4.keep hb) (by omega)
 generalize Int.sign y=g at *
 generalize Int.sign y'=g' at *
 have hgb:(g==0)=false:=beq_eq_false_iff_ne.2 (fun h=>hy (hg1.1 h))
 have hgb':(g'==0)=false:=beq_eq_false_iff_ne.2 (fun h=>hy' (hg2.1 h))
 have HC1:=Kh hC1
 have HC2:=Kh hC2
 clear h1 h2 h3 h4 hC1 hC2 hg1 hg2 hy hy'
 go_enter Tryz.func39,Tryz.ntmps39
 go_wp2_with fail
 obtain⟨w0,hw0,X0,X1,X2,hb0⟩:=bx3 w #[.bool s,.slice p n c,.bool t,.slice q m d] 86 #[.bool s',.slice p' n' c',.bool t',.slice q' m' d'] 86 #[.bool false,.slice none 0 0,.bool false,.slice none 0 0] 86
 rw[hw0]
 have hs0:w.heap.size≤w0.heap.size:=hb0.size
 clear hw0
 have a2:=X0.at_ 2 rfl
 have a3:=X0.at_ 3 rfl
 have HX0:=Kh X0
 have HX1:=Kh X1
 have HX2:=Kh X2
 have HB0:=Kh hb0
 clear X0 X1 X2 hb0
 refine(HC1.out _ HB0.out).mono ?_
 rintro e w1 ⟨rfl,hb1⟩
 replace HX0:=Kh (bk HX0 hb1)
 replace HX1:=Kh (bk HX1 hb1)
 replace HX2:=Kh (bk HX2 hb1)
 replace HB0:=bt HB0 hb1
 have b2:=HX1.out.at_ 2 rfl
 have b3:=HX1.out.at_ 3 rfl
 clear hb1 HC1 a2 a3 hs0
 go_wp2_with fail
 refine(HC2.out _ HB0.out).mono ?_
 rintro e w2 ⟨rfl,hb2⟩
 replace HX0:=Kh (bk HX0 hb2)
 replace HX1:=Kh (bk HX1 hb2)
 replace HX2:=Kh (bk HX2 hb2)
 replace HB0:=bt HB0 hb2
 clear hb2 HC2 b2 b3
 go_upto_region 5 with(fail)
 go_cut [20]from 21 to 28 (fun v20 wc=>∃ b:Bool,v20=.bool b∧(b=true→y=1∧y'=1)∧Below w2.heap.size w2 wc)
 case first=>
  have a2:=HX0.out.at_ 2 rfl
  have a3:=HX0.out.at_ 3 rfl
  have HO1:=Kh (c_one t q m d y w2 (HZ2.out.keep HB0.out) (by omega))
  have HO2:=Kh (fun w3 (hb:Below w2.heap.size w2 w3)=>c_one t' q' m' d' y' w3 ((HZ4.out.keep HB0.out).keep hb) (by omega))
  go_wp2_with fail
  refine HO1.out.mono ?_
  rintro e w3 ⟨⟨b,rfl,hb1⟩,hb3⟩
  have HBB:=Kh hb1
  have HB3:=Kh hb3
  have b2:=(bk HX1 hb3).at_ 2 rfl
  have b3:=(bk HX1 hb3).at_ 3 rfl
  clear hb1 hb3 HO1
  cases b with
  | true=>
   have HY1:=Kh (HBB.out rfl)
   clear HBB
   go_wp2_with fail
   refine(HO2.out _ HB3.out).mono ?_
   rintro e w4 ⟨⟨b',rfl,hb1⟩,hb4⟩
   have HBB':=Kh hb1
   have HB4:=bt HB3 hb4
   clear hb1 hb4 HO2
   go_wp2
   go_meet
   case rel=>exact⟨b',rfl,fun h=>⟨HY1.out,HBB'.out h⟩,HB4.out⟩
  | false=>
   go_wp2
   go_meet
   case rel=>exact⟨false,rfl,(fun h=>by cases h),HB3.out⟩
 case rest=>
  obtain⟨b,rfl,hbb,hbc⟩:=hcut
  have HBB:=Kh hbb
  replace HX0:=Kh (bk HX0 hbc)
  replace HX1:=Kh (bk HX1 hbc)
  replace HX2:=Kh (bk HX2 hbc)
  replace HB0:=bt HB0 hbc
  clear hbb hbc
  cases b with
  | true=>
   have HY1:=Kh (HBB.out rfl)
   clear HBB
   have a0:=HX0.out.at_ 0 rfl
   have a1:=HX0.out.at_ 1 rfl
   have b0:=HX1.out.at_ 0 rfl
   have b1:=HX1.out.at_ 1 rfl
   have HA:=Kh (c_Add s p n c x s' p' n' c' x' wc (HZ1.out.keep HB0.out) (HZ3.out.keep HB0.out) (by omega) (by omega))
   go_wp2_with fail
   refine HA.out.mono ?_
   rintro e w3 ⟨⟨s2,p2,n2,e2,rfl,hz2⟩,hb3⟩
   have HZ:=Kh hz2
   have HB3:=bt HB0 hb3
   replace HX2:=Kh (bk HX2 hb3)
   have HO:=Kh (c_Of 1 w3 (by omega) (by omega))
   clear hz2 hb3 HA a0 a1 b0 b1
   go_wp2_with fail
   refine HO.out.mono ?_
   rintro e w4 ⟨⟨s3,p3,n3,e3,rfl,hz3⟩,hb4⟩
   have HQ:=Kh (show Qs w4 s2 p2 n2 e2 s3 p3 n3 e3 (Rat.divInt (x+x') 1)by
    unfold Qs
    rw[(over_one (x+x')).1,(over_one (x+x')).2]
    exact⟨HZ.out.keep hb4,hz3⟩)
   have HR:=Kh (bk HX2 hb4)
   have HB:=bt HB3 hb4
   have HG:=Kh (show Rat.divInt (x+x') 1=Rat.divInt x y+Rat.divInt x' y' by rw[HY1.out.1,HY1.out.2,rat_add_ints])
   clear hz3 hb4 HO HB3 HZ HB0 HX0 HX1 HX2 HY1
   have r0:=HR.out.at_ 0 rfl
   have r1:=HR.out.at_ 1 rfl
   have r2:=HR.out.at_ 2 rfl
   have r3:=HR.out.at_ 3 rfl
   have f0:=HR.out.free_ 0
   have f1:=HR.out.free_ 1
   have f2:=HR.out.free_ 2
   have f3:=HR.out.free_ 3
   obtain⟨w9,hw9⟩:∃ w9,(((w4.setCell ⟨w.heap.size+1+1,0,none⟩ (.bool s2)).setCell ⟨w.heap.size+1+1,1,none⟩ (.slice p2 n2 e2)).setCell ⟨w.heap.size+1+1,2,none⟩ (.bool s3)).setCell ⟨w.heap.size+1+1,3,none⟩ (.slice p3 n3 e3)=w9:=⟨_,rfl⟩
   obtain⟨E0,E1,E2,E3,hq9⟩:=rat_put HR.out HQ.out hw9
   have hb9:Below w.heap.size w w9:=by rw[← hw9];exact below_putR HB.out (by omega) _ _ _ _
   have HW9:=Kh hw9
   have HE9:=Kh (And.intro E0 (And.intro E1 (And.intro E2 E3)))
   have HQ9:=Kh hq9
   have HB9:=Kh hb9
   clear E0 E1 E2 E3 hq9 hb9 hw9 HQ HB HR
   go_wp2
   try rw[HW9.out]
   obtain⟨E0,E1,E2,E3⟩:=HE9.out
   try simp only[Exit.inBlock,Exit.then]
   refine bodyPost_ret (by simp[results,Tryz.results39,go_sem,E0,E1,E2,E3];try rfl) rfl ?_
   exact⟨⟨s2,p2,n2,e2,s3,p3,n3,e3,rfl,HG.out▸HQ9.out⟩,HB9.out⟩
  | false=>
   clear HBB
   have X0:=HX0.out
   have X1:=HX1.out
   have hb0:=HB0.out
   have hs0:w.heap.size≤wc.heap.size:=hb0.size
   have HM1:=Kh (fun w1 (hb:Below w.heap.size w w1)=>c_Mul s p n c x t' q' m' d' y' w1 (HZ1.out.keep hb) (HZ4.out.keep hb) (by omega) (by omega))
   have HM2:=Kh (fun w1 (hb:Below w.heap.size w w1)=>c_Mul s' p' n' c' x' t q m d y w1 (HZ3.out.keep hb) (HZ2.out.keep hb) (by omega) (by omega))
   have HS1:=Kh (show nd (x*y').natAbs≤2199023255540 by rw[Int.natAbs_mul];have:=nd_mul x.natAbs y'.natAbs;have:=HZ1.out.size;have:=HZ4.out.size;omega)
   have HS2:=Kh (show nd (x'*y).natAbs≤2199023255540 by rw[Int.natAbs_mul];have:=nd_mul x'.natAbs y.natAbs;have:=HZ3.out.size;have:=HZ2.out.size;omega)
   have HS3:=Kh (show nd (y*y').natAbs≤2199023255540 by rw[Int.natAbs_mul];have:=nd_mul y.natAbs y'.natAbs;have:=HZ2.out.size;have:=HZ4.out.size;omega)
   have hlt:w.heap.size+1+1<wc.heap.size:=HX2.out.lt
   have HXR:=HX2
   go_upto_region 7 with(fail)
   go_cut [5]from 36 to 46 (fun v5 wd=>∃ gb s4 p4 n4 e4,v5=.pointer (some ⟨gb,0,none⟩)∧w.heap.size+1+1<gb∧Blk wd gb 84 #[.bool s4,.slice p4 n4 e4]∧Zs wd s4 p4 n4 e4 (x*y'+x'*y)∧Below wc.heap.size wc wd)
   case first=>
    have M1:True:=trivial
    have hS1:wc.cell? ⟨w.heap.size,0,none⟩=some (.bool s)∧wc.cell? ⟨w.heap.size,1,none⟩=some (.slice p n c)∧wc.cell? ⟨w.heap.size,2,none⟩=some (.bool t)∧wc.cell? ⟨w.heap.size,3,none⟩=some (.slice q m d)∧wc.cell? ⟨w.heap.size+1,0,none⟩=some (.bool s')∧wc.cell? ⟨w.heap.size+1,1,none⟩=some (.slice p' n' c')∧wc.cell? ⟨w.heap.size+1,2,none⟩=some (.bool t')∧wc.cell? ⟨w.heap.size+1,3,none⟩=some (.slice q' m' d')∧Below wc.heap.size wc wc∧wc.heap.size≤wc.heap.size:=⟨X0.at_ 0 rfl,X0.at_ 1 rfl,X0.at_ 2 rfl,X0.at_ 3 rfl,X1.at_ 0 rfl,X1.at_ 1 rfl,X1.at_ 2 rfl,X1.at_ 3 rfl,Below.refl _ _,Nat.le_refl _⟩
    have hS0:wc.drew.cell? ⟨w.heap.size,0,none⟩=some (.bool s)∧wc.drew.cell? ⟨w.heap.size,1,none⟩=some (.slice p n c)∧wc.drew.cell? ⟨w.heap.size,2,none⟩=some (.bool t)∧wc.drew.cell? ⟨w.heap.size,3,none⟩=some (.slice q m d)∧wc.drew.cell? ⟨w.heap.size+1,0,none⟩=some (.bool s')∧wc.drew.cell? ⟨w.heap.size+1,1,none⟩=some (.slice p' n' c')∧wc.drew.cell? ⟨w.heap.size+1,2,none⟩=some (.bool t')∧wc.drew.cell? ⟨w.heap.size+1,3,none⟩=some (.slice q' m' d')∧Below wc.heap.size wc wc.drew∧wc.heap.size≤wc.drew.heap.size:=S8_0_next (Below.refl _ wc).drew hS1
    clear X0 X1
    go_region_held3 (fun w1=>w1.cell? ⟨w.heap.size,0,none⟩=some (.bool s)∧w1.cell? ⟨w.heap.size,1,none⟩=some (.slice p n c)∧w1.cell? ⟨w.heap.size,2,none⟩=some (.bool t)∧w1.cell? ⟨w.heap.size,3,none⟩=some (.slice q m d)∧w1.cell? ⟨w.heap.size+1,0,none⟩=some (.bool s')∧w1.cell? ⟨w.heap.size+1,1,none⟩=some (.slice p' n' c')∧w1.cell? ⟨w.heap.size+1,2,none⟩=some (.bool t')∧w1.cell? ⟨w.heap.size+1,3,none⟩=some (.slice q' m' d')∧Below wc.heap.size wc w1∧wc.heap.size≤w1.heap.size)
     (first|with_reducible exact hS0 |(refine S8_0_next (by with_reducible assumption) ?_;assumption)|exact S8_0_alloc (by with_reducible assumption) _|exact S8_0_next (HW4.out.alloc HW4.out.size _) hS1 |(refine S8_0_put2 ?_ ?_ ?_ ?_ ?_ ?_ ?_ ?_ ?_ ?_ ?_ ?_ ?_ ?_ ?_ ?_ ?_ ?_ ?_ ?_ ?_ <;> first|with_reducible assumption|exact NotInt.bool _|exact NotInt.slice _ _ _ |(dsimp only;omega))|exact S8_0_fresh (by with_reducible assumption) _ _ _ (NotInt.bool _) (NotInt.slice _ _ _))
     (first
      |(go_at_call 84;clear M1;refine(HM1.out _ (HB0.out.trans ((S8_0_below (by with_reducible assumption)).mono HB0.out.size))).mono ?_;rintro e w2 ⟨⟨s2,p2,n2,e2,rfl,hz2⟩,hb2⟩;have HA2:=Kh hz2;have HSZ2:=Kh (Nat.le_trans (S8_0_size (by with_reducible assumption)) (Below.size hb2));(try have fa2:=fresh_at (B:=wc.heap.size) (W:=wc.drew) (g:=wc.heap.size) rfl (Nat.le_refl _) hb2);clear hz2)
      |(go_at_call 84;refine(HM2.out _ (HB0.out.trans ((S8_0_below (by with_reducible assumption)).mono HB0.out.size))).mono ?_;rintro e w3 ⟨⟨s3,p3,n3,e3,rfl,hz3⟩,hb3⟩;have HA3:Zs w3 s2 p2 n2 e2 (x*y'):=(by first|exact HA2.out.keep hb3|exact(HA2.out.keep ((Below.refl _ _).alloc (Nat.le_refl _) _)).keep hb3);have HAD:=Kh (fun w5 (hb5:Below w3.heap.size w3 w5)=>c_Add s2 p2 n2 e2 (x*y') s3 p3 n3 e3 (x'*y) w5 (HA3.keep hb5).raw (hz3.keep hb5).raw (by rw[← HA3.2.1];have:=HS1.out;omega) (by rw[← hz3.2.1];have:=HS2.out;omega));have HSZ3:=Kh (Nat.le_trans (S8_0_size (by with_reducible assumption)) (Below.size hb3));(first|have fa3:=fresh_after (W:=w2) HSZ2.out hb3|have fa3:=fresh_next hb3 fa2|skip);clear hz3 HA2 HA3)
      |(go_at_call 82;refine(HAD.out _ (by first|exact Below.refl _ _|exact(Below.refl _ _).alloc (Nat.le_refl _) _)).mono ?_;rintro e w4 ⟨⟨s4,p4,n4,e4,rfl,hz4⟩,hb4⟩;have HW4:=Kh (Below.trans (S8_0_below (by with_reducible assumption)) (Below.mono hb4 (S8_0_size (by with_reducible assumption))));have HA4:=Kh hz4;(first|have fa4:=fresh_after (W:=w3) HSZ3.out hb4|have fa4:=fresh_next hb4 fa3|skip);clear hz4))
    all_goals go_wp2
    all_goals go_meet
    all_goals first
     | exact⟨_,s4,p4,n4,e4,rfl,Nat.lt_of_lt_of_le hlt HW4.out.size,Blk.new w4 _ _,HA4.out.keep ((Below.refl _ _).alloc (Nat.le_refl _) _),HW4.out.alloc HW4.out.size _⟩
     | exact⟨_,s4,p4,n4,e4,rfl,Nat.lt_of_lt_of_le hlt fa4.1,(one_put fa4.2.2.2.2.2 HA4.out).1,(one_put fa4.2.2.2.2.2 HA4.out).2,(HW4.out.setCell fa4.1 _).setCell fa4.1 _⟩
   case rest=>
    obtain⟨gb,s4,p4,n4,e4,rfl,hgb2,XG,zg,hbd⟩:=hcut
    clear HM1 HM2
    replace X0:=bk HX0 hbd
    replace X1:=bk HX1 hbd
    have X2:=bk HX2 hbd
    replace hb0:=HB0.out.trans (hbd.mono HB0.out.size)
    replace hs0:w.heap.size≤wc.heap.size:=hb0.size
    have HM3:=Kh (fun w1 (hb:Below w.heap.size w w1)=>c_Mul t q m d y t' q' m' d' y' w1 (HZ2.out.keep hb) (HZ4.out.keep hb) (by omega) (by omega))
    have HZG:=Kh zg
    have hn4:n4≤2199023255541:=by
     rw[← zg.2.1]
     exact nd_add_int _ _ HS1.out HS2.out
    have T2:=Sts.of X2 (by intro v hv;simp at hv;rcases hv with rfl|rfl|rfl|rfl <;> first|exact NotInt.bool _|exact NotInt.slice _ _ _)
    clear HX0 HX1 HX2 HXR HB0 hbd zg
    go_upto_region 8 with(fail)
    have hS0:=S6_4_next (Below.refl _ wc).drew ⟨XG.c0,XG.c1,X0.c2,X0.c3,X1.c2,X1.c3,X2.so 0,X2.free_ 0,T2,X2.so 1,X2.free_ 1,T2,X2.so 2,X2.free_ 2,T2,X2.so 3,X2.free_ 3,T2,hb0,hs0⟩
    clear X0 X1 X2 XG T2
    go_region_held3 (fun w1=>w1.cell? ⟨gb,0,none⟩=some (.bool s4)∧w1.cell? ⟨gb,1,none⟩=some (.slice p4 n4 e4)∧w1.cell? ⟨w.heap.size,2,none⟩=some (.bool t)∧w1.cell? ⟨w.heap.size,3,none⟩=some (.slice q m d)∧w1.cell? ⟨w.heap.size+1,2,none⟩=some (.bool t')∧w1.cell? ⟨w.heap.size+1,3,none⟩=some (.slice q' m' d')∧w1.cell? ⟨w.heap.size+1+1,0,none⟩=some (cellOf w1 ⟨w.heap.size+1+1,0,none⟩)∧w1.frozen? ⟨w.heap.size+1+1,0,none⟩=false∧Sts w1 (w.heap.size+1+1)∧w1.cell? ⟨w.heap.size+1+1,1,none⟩=some (cellOf w1 ⟨w.heap.size+1+1,1,none⟩)∧w1.frozen? ⟨w.heap.size+1+1,1,none⟩=false∧Sts w1 (w.heap.size+1+1)∧w1.cell? ⟨w.heap.size+1+1,2,none⟩=some (cellOf w1 ⟨w.heap.size+1+1,2,none⟩)∧w1.frozen? ⟨w.heap.size+1+1,2,none⟩=false∧Sts w1 (w.heap.size+1+1)∧w1.cell? ⟨w.heap.size+1+1,3,none⟩=some (cellOf w1 ⟨w.heap.size+1+1,3,none⟩)∧w1.frozen? ⟨w.heap.size+1+1,3,none⟩=false∧Sts w1 (w.heap.size+1+1)∧Below w.heap.size w w1∧w.heap.size≤w1.heap.size)
     (first|with_reducible exact hS0 |(refine S6_4_next (by with_reducible assumption) ?_;assumption) |(refine S6_4_put ?_ ?_ ?_ ?_ ?_ ?_ ?_ ?_ ?_ ?_ ?_ ?_ ?_ ?_ ?_ ?_ ?_ ?_ ?_ ?_ ?_ ?_ ?_ ?_ ?_ ?_ ?_ ?_ ?_ ?_ ?_ ?_ ?_ <;> first|assumption|exact NotInt.bool _|exact NotInt.slice _ _ _ |(dsimp only;omega)))
     (first
      |(go_at_call 84;refine(HM3.out _ (S6_4_below (by with_reducible assumption))).mono ?_;rintro e w2 ⟨⟨s2,p2,n2,e2,rfl,hz2⟩,hb2⟩;have HOV:=Kh (c_over s4 p4 n4 e4 (x*y'+x'*y) s2 p2 n2 e2 (y*y') w2 (HZG.out.keep (by first|exact(Below.refl _ wc).drew.trans hb2|exact hb2)).raw hz2.raw (by omega) (by rw[← hz2.2.1];have:=HS3.out;omega));clear hz2)
      |(go_at_call 85;refine HOV.out.mono ?_;rintro e w3 ⟨⟨s3,p3,n3,e3,t3,q3,m3,d3,rfl,hq3⟩,hb3⟩;clear hb2;obtain⟨⟨hR0,hT⟩,⟨hR1,_⟩,⟨hR2,_⟩,⟨hR3,_⟩⟩:=S6_4_end hb3 (by with_reducible assumption);have hq5:=Kh (hq3.put4 hT (.bool s3) (.slice p3 n3 e3) (.bool t3) (.slice q3 m3 d3) (NotInt.bool _) (NotInt.slice _ _ _) (NotInt.bool _));clear hq3 hT))
    go_wp2
    try simp only[Exit.inBlock,Exit.then]
    refine bodyPost_ret (by simp[results,Tryz.results39,go_sem,hR0,hR1,hR2,hR3];try rfl) rfl ?_
    exact⟨⟨s3,p3,n3,e3,t3,q3,m3,d3,rfl,HV.out▸hq5.out⟩,S6_4_below (by assumption)⟩
theorem u32Row:(Tryz.prog.info? 200).map (fun i=>(i.zero,i.size,i.bytes))=some (some (.int .u32 0),1,4):=u32Info
theorem one32 (s:Nat):∀ u∈[Value.int .u32 (s:Nat)],u.oneCell'=true:=by
 intro u hu
 rw[List.mem_singleton]at hu
 subst hu;rfl
theorem dg_inj {u v n:Nat} (hu:nd u=n) (hv:nd v=n) (h:∀ j,j<n→dg u j=dg v j):u=v:=by
 have h1:=vf_nd u
 have h2:=vf_nd v
 rw[hu]at h1
 rw[hv]at h2
 rw[← h1,← h2]
 exact vf_congr h
def BitAt (w:World) (gq M k u v R:Nat):Prop:=∃ rq,Row w gq M rq∧(∀ l,l<M→2 ^ (min 32 (k - 32*l))∣rq l)∧u=v*vf rq M+R∧R<v*2 ^ k
theorem BitAt.far {w w':World} {gq M k u v R:Nat} (h:BitAt w gq M k u v R) (hb:Below w.heap.size w w'):BitAt w' gq M k u v R:=by
 obtain⟨rq,hrow,h2⟩:=h
 exact⟨rq,hrow.below hb hrow.1.lt,h2⟩
def Off (G:Nat) (p:Option Addr) (n:Nat):Prop:=n=0∨∃ g o,p=some ⟨g,o,none⟩∧g≠G
theorem Dg.off {w:World} {G:Nat} {p:Option Addr} {c n:Nat} {a:Nat→Nat} (h:Dg w p c n a) (ho:Off G p n) (i:Nat) (v:Value):Dg (w.setCell ⟨G,i,none⟩ v) p c n a:=
 ⟨h.cap,h.lt,by
  rcases h.at' with h1 |⟨g,o,e,hg,hc⟩
  ·exact .inl h1
  ·rcases ho with h0 |⟨g',o',e',hne⟩
   ·exact .inl h0
   ·rw[e]at e'
    injection e' with e';injection e' with e1 e2
    exact .inr ⟨g,o,e,by simpa using hg,fun j hj=>by
     rw[World.cell?_setCell_far w ⟨G,i,none⟩ ⟨g,o+j,none⟩ v (by show G≠g;rw[e1];exact Ne.symm hne)]
     exact hc j hj⟩⟩
theorem c_SameInt (s:Bool) (p:Option Addr) (n c:Nat) (x:Int) (t:Bool) (q:Option Addr) (m d:Nat) (y:Int) (w:World) (h:Zs w s p n c x) (h':Zs w t q m d y) (hn:n≤35184372088830):
  Calls Tryz.prog 123 #[.agg #[.bool s,.slice p n c],.agg #[.bool t,.slice q m d]] w fun e w'=>e=.returned (.bool (decide (x=y)))∧Below w.heap.size w w':=by
 obtain⟨r,hr⟩:∃ r,decide (x=y)=r:=⟨_,rfl⟩
 rw[hr]
 obtain⟨hs,hnn,hnm⟩:=h
 obtain⟨ht,hmm,hmn⟩:=h'
 unfold Nm at hnm hmn
 rw[hnn]at hnm
 rw[hmm]at hmn
 have HR:=Kh hr
 have HS:=Kh hs
 have HT:=Kh ht
 have HN:=Kh hnn
 have HM:=Kh hmm
 have HX:=Kh hnm
 have HY:=Kh hmn
 have HB0:=Kh (((Below.refl w.heap.size w).alloc (Nat.le_refl _) (.cells #[.bool s,.slice p n c] 84)).alloc (by simp) (.cells #[.bool t,.slice q m d] 84))
 clear hr hs ht hnn hmm hnm hmn
 by_cases hst:s=t
 ·by_cases hnm:n=m
  ·subst hst hnm
   go_enter Tryz.func123,Tryz.ntmps123
   go_wp2
   obtain⟨w0,hw0⟩:∃ w0,(w.alloc (.cells #[.bool s,.slice p n c] 84)).alloc (.cells #[.bool s,.slice q n d] 84)=w0:=⟨_,rfl⟩
   rw[hw0]
   rw[hw0]at HB0
   obtain⟨X0,X1,_⟩:=box2 w #[.bool s,.slice p n c] 84 #[.bool s,.slice q n d] 84
   rw[hw0]at X0 X1
   have a1:=X0.at_ 1 rfl
   have b1:=X1.at_ 1 rfl
   clear X0 X1 hw0
   go_loopw [5] (fun v5 wr=>∃ i:Nat,i≤n∧v5=.int .i64 i∧(∀ j,j<i→dg x.natAbs j=dg y.natAbs j)∧∃ k,wr=w0.drewN k) (fun v5 _=>n - (intOf v5).toNat)
   case atStart=>exact⟨0,Nat.zero_le _,rfl,fun j hj=>absurd hj (Nat.not_lt_zero _),0,rfl⟩
   case round=>
    obtain⟨i,hi,rfl,heq,mr,rfl⟩:=hrel
    have HE:=Kh heq
    clear heq
    by_cases hin:i<n
    ·obtain⟨g1,o1,rfl,hg1,hc1⟩:=HX.out.head (by omega)
     obtain⟨g2,o2,rfl,hg2,hc2⟩:=HY.out.head (by omega)
     have c1:w0.cell? ⟨g1,o1+i,none⟩=some (.int .u32 (dg x.natAbs i:Nat)):=(HB0.out.cell (p:=⟨g1,o1+i,none⟩) hg1).trans (hc1 i hin)
     have c2:w0.cell? ⟨g2,o2+i,none⟩=some (.int .u32 (dg y.natAbs i:Nat)):=(HB0.out.cell (p:=⟨g2,o2+i,none⟩) hg2).trans (hc2 i hin)
     obtain⟨u,hu⟩:∃ u,dg x.natAbs i=u:=⟨_,rfl⟩
     obtain⟨v,hv⟩:∃ v,dg y.natAbs i=v:=⟨_,rfl⟩
     rw[hu]at c1
     rw[hv]at c2
     have HU:=Kh hu
     have HV:=Kh hv
     clear hc1 hc2 hu hv
     by_cases huv:u=v
     ·subst huv
      go_wp2
      go_quiet (fail)
      go_wp2
      go_roundw
      case rel=>exact⟨i+1,by omega,by go_num,fun j hj=>by
       rcases Nat.lt_or_ge j i with h3|h3
       ·exact HE.out j h3
       ·rw[show j=i from by omega,HU.out,HV.out],_,by first|rfl|rw[dr2]⟩
      case measure=>simp[intOf];omega
     ·have hub:((u:Int) !=(v:Int))=true:=by rw[bne_iff_ne];omega
      have HF:=Kh (show false=r by
       rw[← HR.out]
       refine(decide_eq_false fun h=>huv ?_).symm
       rw[← HU.out,← HV.out,h])
      clear huv
      go_wp2
      go_quiet (fail)
      go_wp2
      go_ret
      exact⟨by rw[← HF.out];rfl,by first|exact below_drewN' (below_drewN' HB0.out _) _|exact below_drewN' HB0.out _⟩
    ·obtain rfl:i=n:=by omega
     have HF:=Kh (show true=r by
      rw[← HR.out]
      refine(decide_eq_true ?_).symm
      have h1:=dg_inj HN.out HM.out HE.out
      have h2:=HS.out
      rw[HT.out,decide_eq_decide]at h2
      omega)
     go_wp2
     go_ret
     exact⟨by rw[← HF.out];rfl,below_drewN' HB0.out _⟩
  ·subst hst
   have hnb:((n:Int) !=(m:Int))=true:=by rw[bne_iff_ne];omega
   have HF:=Kh (show false=r by
    rw[← HR.out]
    exact(decide_eq_false fun h=>hnm (by rw[← HN.out,← HM.out,h])).symm)
   clear hnm
   go_enter Tryz.func123,Tryz.ntmps123
   go_wp2
   go_ret
   exact⟨by rw[← HF.out];rfl,HB0.out⟩
 ·obtain rfl:t = !s:=by cases s <;> cases t <;> simp_all
  have hsb:(s != !s)=true:=by cases s <;> rfl
  have HF:=Kh (show false=r by
   rw[← HR.out]
   refine(decide_eq_false fun h=>?_).symm
   have h1:=HS.out
   have h2:=HT.out
   rw[← h,← h1]at h2
   cases s <;> cases h2)
  clear hst
  go_enter Tryz.func123,Tryz.ntmps123
  go_wp2
  go_ret
  exact⟨by rw[← HF.out];rfl,HB0.out⟩
def TwoQ (w:World) (A B:Nat) (x y:Rat):Prop:=∃ s1 p1 n1 c1 t1 q1 m1 d1 s2 p2 n2 c2 t2 q2 m2 d2,Blk w A 86 #[.bool s1,.slice p1 n1 c1,.bool t1,.slice q1 m1 d1]∧Blk w B 86 #[.bool s2,.slice p2 n2 c2,.bool t2,.slice q2 m2 d2]∧Qs w s1 p1 n1 c1 t1 q1 m1 d1 x∧Qs w s2 p2 n2 c2 t2 q2 m2 d2 y
theorem TwoQ.symm {w:World} {A B:Nat} {x y:Rat} (h:TwoQ w A B x y):TwoQ w B A y x:=by
 obtain⟨s1,p1,n1,c1,t1,q1,m1,d1,s2,p2,n2,c2,t2,q2,m2,d2,h1,h2,h3,h4⟩:=h
 exact⟨_,_,_,_,_,_,_,_,_,_,_,_,_,_,_,_,h2,h1,h4,h3⟩
end Go.Proofs.YtenlbhlllgppmaaGreatDoor
