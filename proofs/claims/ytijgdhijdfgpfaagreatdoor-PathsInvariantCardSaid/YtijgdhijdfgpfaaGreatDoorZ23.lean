/- Contracts of the statement's helpers: Same (equal lists of paths), Far. -/
import Derived.Test.YtijgdhijdfgpfaaGreatDoorZ22
import Derived.ChangeSlices
import Derived.Deep.Slices
import Derived.Deep.Strs
import Derived.ReadAgain
import Derived.Lib.SmallJoins
import Derived.Test.YtijgdhijdfgpfaaGreatDoorZ19
set_option maxRecDepth 100000
set_option maxHeartbeats 8000000
namespace Go.Proofs.YtijgdhijdfgpfaaGreatDoor
open Go.RowKit
def PLs (F:Nat→Nat→Rat) (X Y:Nat→Int×Int) (w:World) (v:Value) (k n:Nat):Prop:=
 (k=0∧∃ a c,v=.slice a 0 c)∨∃ g0 c0,v=.slice (some ⟨g0,0,none⟩) k c0∧g0<w.heap.size∧∀ i,i<k→∃ g cap,w.cell? ⟨g0,i*5,none⟩=some (.slice (some ⟨g,0,none⟩) n cap)∧w.cell? ⟨g0,i*5+1,none⟩=some (.int .i64 (X i).1)∧w.cell? ⟨g0,i*5+2,none⟩=some (.int .i64 (X i).2)∧w.cell? ⟨g0,i*5+3,none⟩=some (.int .i64 (Y i).1)∧w.cell? ⟨g0,i*5+4,none⟩=some (.int .i64 (Y i).2)∧QRow (fun j=>IsQ (F i j)) w g n n
theorem PLs.keep {F:Nat→Nat→Rat} {X Y:Nat→Int×Int} {w w':World} {k n:Nat} {v:Value} (h:PLs F X Y w v k n) (hb:Below w.heap.size w w'):PLs F X Y w' v k n:=by
 rcases h with h |⟨g0,c0,e,hg,hc⟩
 ·exact .inl h
 ·refine .inr ⟨g0,c0,e,Nat.lt_of_lt_of_le hg hb.size,fun i hi=>?_⟩
  obtain⟨g,cap,e0,e1,e2,e3,e4,e5⟩:=hc i hi
  have hk:∀ j v,w.cell? ⟨g0,j,none⟩=some v→w'.cell? ⟨g0,j,none⟩=some v:=fun j v e=>(hb.cell (p:=⟨g0,j,none⟩) hg).trans e
  exact⟨g,cap,hk _ _ e0,hk _ _ e1,hk _ _ e2,hk _ _ e3,hk _ _ e4,e5.keep (fun _=>IsQ.solid _) hb⟩
def IsA (x y:Int):FP:=fun w s p n c t q m d=>Zr w s p n c x∧Zr w t q m d y
theorem IsA.solid (x y:Int):Solid (IsA x y):=fun _ _ _ _ _ _ _ _ _ _ h hq=>⟨hq.1.i32 h,hq.2.i32 h⟩
def Shorts (x y:Nat→Int) (w:World) (vp:Option Addr) (i:Nat):Prop:=∀ j,j<i→∃ g o,vp=some ⟨g,o,none⟩∧g<w.heap.size∧QE (IsR (x j) (y j)) w g (o+j*4)
theorem Shorts.ql {x y:Nat→Int} {w:World} {vp:Option Addr} {n c:Nat} (h:Shorts x y w vp n):QL (fun j=>IsR (x j) (y j)) w (.slice vp n c) n:=by
 rcases Nat.eq_zero_or_pos n with rfl|h0
 ·exact .inl ⟨rfl,_,_,rfl⟩
 ·obtain⟨g,o,rfl,hg,_⟩:=h 0 h0
  refine .inr ⟨g,o,c,rfl,hg,fun j hj=>?_⟩
  obtain⟨g',o',e,_,hq⟩:=h j hj
  injection e with e
  injection e with e1 e2
  subst e1;subst e2
  exact hq
end Go.Proofs.YtijgdhijdfgpfaaGreatDoor
namespace Go.Proofs.YtijgdhijdfgpfaaGreatDoor
open Go.RowKit Go.ChangeShapes Go.WideShapes Go.Deep
theorem cells26:Tryz.prog.cellsOf 24=2:=by kernel_rfl
theorem cells3:Tryz.prog.cellsOf 3=1:=by kernel_rfl
theorem spot_of {w:World} {a:Addr} {v:Value} (h:w.cell? a=some v):a.spot=none:=by
 cases hsp:a.spot with
 | none=>rfl
 | some s=>
  simp only[World.cell?]at h
  split at h
  ·simp[hsp]at h
  ·cases h
theorem addr_of {w:World} {a:Addr} {v:Value} (h:w.cell? (a.add 0)=some v):∃ g o,a=⟨g,o,none⟩∧g<w.heap.size:=by
 have e:a.add 0=a:=by unfold Addr.add;rw[if_pos rfl]
 rw[e]at h
 have h1:=spot_of h
 have h2:=World.block_lt_of_cell? w a h
 obtain⟨g,o,s⟩:=a
 dsimp only at h1 h2
 subst h1
 exact⟨g,o,rfl,h2⟩
theorem wf_lo {k:IntKind} {n:Int} (h:(Lit.int k n).wf=true):k.min≤n∧n≤k.max:=by simpa [Lit.wf] using h
section
variable {H:Type} {enc:TypeId×Value→H} {w:World} {sp:Nat→Bool} {hd:Bool}
theorem trodAll_carry {P:Program} {W W':World}:∀ {ts:List TypeId} {vs:List Value} {ds:List (DataW H)} {ps:List MemPlace},DataW.TrodAll enc P W 0 sp hd ts vs ds ps→(∀ p∈ps,W.sameAt W' p)→DataW.TrodAll enc P W' 0 sp hd ts vs ds ps
 | [],[],[],_,h,_=>h
 | _ :: _,_ :: _,_ :: _,_,⟨p,q,⟨n,h1⟩,h2,e⟩,hs=>⟨p,q,⟨n,DataW.trod_carry n _ _ _ h1 (fun x hx=>hs x (by rw[e];exact List.mem_append_left _ hx))⟩,trodAll_carry h2 (fun x hx=>hs x (by rw[e];exact List.mem_append_right _ hx)),e⟩
end
theorem kidsAll:Kids Tryz.prog (·<Tryz.prog.types.size):=kids_rows (by kernel_rfl) (by kernel_rfl)
theorem fullAll:∀ t e,t<Tryz.prog.types.size→Tryz.prog.underlying t=some (.slice e)→0<Tryz.prog.cellsOf e:=slices_full_of Tryz.prog (by kernel_rfl)
end Go.Proofs.YtijgdhijdfgpfaaGreatDoor
namespace Go.Proofs.YtijgdhijdfgpfaaGreatDoor
open Go.ChangeShapes Go.WideShapes Go.ChangeAt Go.RowKit Go.Joins
theorem cells8i:Tryz.prog.cellsOf 42=1:=by kernel_rfl
theorem cells8l:Tryz.prog.cellsOf 41=1:=by kernel_rfl
theorem cellsCo:Tryz.prog.cellsOf 44=11:=by kernel_rfl
theorem array11 {α:Type} {cs:Array α} (h:cs.size=11):∃ c0 c1 c2 c3 c4 c5 c6 c7 c8 c9 c10,cs=#[c0,c1,c2,c3,c4,c5,c6,c7,c8,c9,c10]:=by
 obtain⟨l⟩:=cs
 match l,h with
 | [c0,c1,c2,c3,c4,c5,c6,c7,c8,c9,c10],_=>exact⟨c0,c1,c2,c3,c4,c5,c6,c7,c8,c9,c10,rfl⟩
theorem list8 {α:Type} {l:List α} (h:l.length=8):∃ c0 c1 c2 c3 c4 c5 c6 c7,l=[c0,c1,c2,c3,c4,c5,c6,c7]:=by
 match l,h with
 | [c0,c1,c2,c3,c4,c5,c6,c7],_=>exact⟨c0,c1,c2,c3,c4,c5,c6,c7,rfl⟩
section
variable {H:Type} {enc:TypeId×Value→H} {w:World} {sp:Nat→Bool} {hd:Bool}
theorem open_i8f {n:Nat} {v:Value} {y:DataW H×List MemPlace} (h:DataW.trod enc Tryz.prog w 0 sp hd n 41 [v]=some y):
  ∃ (p:Option Addr) (ln c:Nat) (x:Nat→Int),v=.slice p ln c∧(∀ k,k<ln→∃ g o,p=some ⟨g,o,none⟩∧g<w.heap.size∧w.cell? ⟨g,o+k,none⟩=some (.int .i8 (x k)))∧∀ k,k<ln→-128≤x k∧x k≤127:=by
 rcases open_ints Tryz.underlying41 Tryz.underlying42 cells8i h with⟨h1,_⟩ |⟨a,len,cap,zs,h1,_,h3,_,h5,_,h7,h8⟩
 ·have h2:v=.slice none 0 0:=by
   have h0:[v]=[.slice none 0 0]:=h1
   injection h0
  subst h2
  exact⟨none,0,0,fun _=>0,rfl,fun k hk=>absurd hk (Nat.not_lt_zero _),fun k hk=>absurd hk (Nat.not_lt_zero _)⟩
 ·have h2:v=.slice (some a) len cap:=by
   have h0:[v]=[.slice (some a) len cap]:=h1
   injection h0
  subst h2
  have hle:len≤zs.length:=by rw[h5];split <;> omega
  refine⟨some a,len,cap,fun i=>zs.getD i 0,rfl,fun k hk=>?_,fun k hk=>?_⟩
  ·obtain⟨g,o,rfl,hg⟩:=addr_of (h7 0 (by omega))
   have h9:=h7 k (by omega)
   rw[Addr.add_lit]at h9
   exact⟨g,o,rfl,hg,h9⟩
  ·have hk2:k<zs.length:=by omega
   have e:zs.getD k 0=zs[k]:=by rw[List.getD_eq_getElem?_getD,List.getElem?_eq_getElem hk2];rfl
   have h9:=wf_lo (h8 (zs.getD k 0) (by rw[e];exact List.getElem_mem hk2))
   exact h9
theorem open_cusp {n:Nat} {v0 v1:Value} {y:DataW H×List MemPlace} (h:DataW.trod enc Tryz.prog w 0 sp hd n 24 [v0,v1]=some y):∃ p q:Int,v0=.int .i64 p∧v1=.int .i64 q∧(-9223372036854775808≤p∧p≤9223372036854775807)∧(-9223372036854775808≤q∧q≤9223372036854775807):=by
 obtain⟨z0,z1,n1,_,_,k0,k1⟩:=trod_struct2 (cs:=[v0,v1]) Tryz.underlying24 h
 dsimp only at k0 k1
 rw[cells3]at k0 k1
 obtain⟨p,e0,_,w0⟩:=DataW.trod_int Tryz.underlying3 k0
 obtain⟨q,e1,_,w1⟩:=DataW.trod_int Tryz.underlying3 k1
 simp at e0 e1
 exact⟨p,q,e0,e1,wf_lo w0,wf_lo w1⟩
theorem open_one8 {n:Nat} {v:Value} {y:DataW H×List MemPlace} (h:DataW.trod enc Tryz.prog w 0 sp hd n 42 [v]=some y):∃ a:Int,v=.int .i8 a∧(-128≤a∧a≤127):=by
 obtain⟨a,e0,_,w0⟩:=DataW.trod_int Tryz.underlying42 h
 simp at e0
 exact⟨a,e0,wf_lo w0⟩
theorem trod_struct8 {P:Program} {base:Nat} {t:TypeId} {f0 f1 f2 f3 f4 f5 f6 f7:Field} {fuel:Nat} {cs:List Value} {x:DataW H×List MemPlace} (ht:P.underlying t=some (.struct #[f0,f1,f2,f3,f4,f5,f6,f7])) (h:DataW.trod enc P w base sp hd fuel t cs=some x):
  ∃ y0 y1 y2 y3 y4 y5 y6 y7 n,DataW.trod enc P w base sp hd n f0.type ((cs.drop f0.offset).take (P.cellsOf f0.type))=some y0∧DataW.trod enc P w base sp hd n f1.type ((cs.drop f1.offset).take (P.cellsOf f1.type))=some y1∧DataW.trod enc P w base sp hd n f2.type ((cs.drop f2.offset).take (P.cellsOf f2.type))=some y2∧DataW.trod enc P w base sp hd n f3.type ((cs.drop f3.offset).take (P.cellsOf f3.type))=some y3∧DataW.trod enc P w base sp hd n f4.type ((cs.drop f4.offset).take (P.cellsOf f4.type))=some y4∧DataW.trod enc P w base sp hd n f5.type ((cs.drop f5.offset).take (P.cellsOf f5.type))=some y5∧DataW.trod enc P w base sp hd n f6.type ((cs.drop f6.offset).take (P.cellsOf f6.type))=some y6∧DataW.trod enc P w base sp hd n f7.type ((cs.drop f7.offset).take (P.cellsOf f7.type))=some y7:=by
 obtain⟨xs,n,_,rfl,hl,hlen,hf⟩:=DataW.trod_struct ht h
 obtain⟨y0,y1,y2,y3,y4,y5,y6,y7,rfl⟩:=list8 hlen
 exact⟨y0,y1,y2,y3,y4,y5,y6,y7,n,by simpa using hf 0 f0 rfl,by simpa using hf 1 f1 rfl,by simpa using hf 2 f2 rfl,by simpa using hf 3 f3 rfl,by simpa using hf 4 f4 rfl,by simpa using hf 5 f5 rfl,by simpa using hf 6 f6 rfl,by simpa using hf 7 f7 rfl⟩
theorem open_corners {r:Reach} {b0:Nat} {v:Value} {d:DataW H} {ps:List MemPlace} (hv:Value.okWide Tryz.prog w r b0 44 v) (h:DataW.Trod enc Tryz.prog w 0 sp hd 44 v d ps):
  ∃ (p:Option Addr) (ln cp:Nat) (x:Nat→Int) (x1 x2 y1 y2 z1 z2 a b c e:Int),v=.agg #[.slice p ln cp,.int .i64 x1,.int .i64 x2,.int .i64 y1,.int .i64 y2,.int .i64 z1,.int .i64 z2,.int .i8 a,.int .i8 b,.int .i8 c,.int .i8 e] ∧
   ((∀ k,k<ln→∃ g o,p=some ⟨g,o,none⟩∧g<w.heap.size∧w.cell? ⟨g,o+k,none⟩=some (.int .i8 (x k)))∧∀ k,k<ln→-128≤x k∧x k≤127) ∧
   ((-9223372036854775808≤x1∧x1≤9223372036854775807)∧(-9223372036854775808≤x2∧x2≤9223372036854775807))∧((-9223372036854775808≤y1∧y1≤9223372036854775807)∧(-9223372036854775808≤y2∧y2≤9223372036854775807))∧((-9223372036854775808≤z1∧z1≤9223372036854775807)∧(-9223372036854775808≤z2∧z2≤9223372036854775807)) ∧
   (-128≤a∧a≤127)∧(-128≤b∧b≤127)∧(-128≤c∧c≤127)∧(-128≤e∧e≤127):=by
 obtain⟨cs,rfl,hsz⟩:=okWide_struct Tryz.underlying44 hv
 obtain⟨v0,v1,v2,v3,v4,v5,v6,v7,v8,v9,v10,rfl⟩:=array11 (hsz.trans cellsCo)
 clear hv hsz
 obtain⟨fuel,hf⟩:=h
 obtain⟨y0,y1,y2,y3,y4,y5,y6,y7,n,h0,h1,h2,h3,h4,h5,h6,h7⟩:=trod_struct8 Tryz.underlying44 hf
 dsimp only at h0 h1 h2 h3 h4 h5 h6 h7
 rw[cells8l]at h0
 rw[cells26]at h1 h2 h3
 rw[cells8i]at h4 h5 h6 h7
 have g0:DataW.trod enc Tryz.prog w 0 sp hd n 41 [v0]=some y0:=h0
 have g1:DataW.trod enc Tryz.prog w 0 sp hd n 24 [v1,v2]=some y1:=h1
 have g2:DataW.trod enc Tryz.prog w 0 sp hd n 24 [v3,v4]=some y2:=h2
 have g3:DataW.trod enc Tryz.prog w 0 sp hd n 24 [v5,v6]=some y3:=h3
 have g4:DataW.trod enc Tryz.prog w 0 sp hd n 42 [v7]=some y4:=h4
 have g5:DataW.trod enc Tryz.prog w 0 sp hd n 42 [v8]=some y5:=h5
 have g6:DataW.trod enc Tryz.prog w 0 sp hd n 42 [v9]=some y6:=h6
 have g7:DataW.trod enc Tryz.prog w 0 sp hd n 42 [v10]=some y7:=h7
 clear h0 h1 h2 h3 h4 h5 h6 h7 hf
 obtain⟨p,ln,cp,x,rfl,hp⟩:=open_i8f g0
 obtain⟨x1,x2,rfl,rfl,hx1⟩:=open_cusp g1
 obtain⟨u1,u2,rfl,rfl,hu1⟩:=open_cusp g2
 obtain⟨z1,z2,rfl,rfl,hz1⟩:=open_cusp g3
 obtain⟨a,rfl,ha⟩:=open_one8 g4
 obtain⟨b,rfl,hb⟩:=open_one8 g5
 obtain⟨c,rfl,hc⟩:=open_one8 g6
 obtain⟨e,rfl,he⟩:=open_one8 g7
 exact⟨p,ln,cp,x,x1,x2,u1,u2,z1,z2,a,b,c,e,rfl,hp,hx1,hu1,hz1,ha,hb,hc,he⟩
end
end Go.Proofs.YtijgdhijdfgpfaaGreatDoor
namespace Go.Proofs.YtijgdhijdfgpfaaGreatDoor
open Go.RowKit
theorem neg_over (x:Rat):Rat.divInt (-x.num) x.den=-x:=by
 rw[← Rat.neg_divInt,rat_self]
theorem quo_over (x y:Rat):Rat.divInt (x.num*y.den) (x.den*y.num)=x / y:=by
 rw[← Rat.divInt_mul_divInt,rat_self,Rat.div_def,Rat.inv_def]
theorem c_qSignQ (s:Bool) (p:Option Addr) (n c:Nat) (t:Bool) (q:Option Addr) (m d:Nat) (x:Rat) (w:World) (h:Qs w s p n c t q m d x) (hx:hq x≤1000000000):
  Calls Tryz.prog 60 #[.agg #[.bool s,.slice p n c,.bool t,.slice q m d]] w fun e w'=>RetSg e x∧Below w.heap.size w w':=by
 have h1:=c_qSign s p n c x.num t q m d x.den w h.1.raw h.2.raw (by have:=h.sizes;omega) (by have:=h.sizes;omega)
 rw[rat_self]at h1
 exact h1
theorem c_qNegQ (s:Bool) (p:Option Addr) (n c:Nat) (t:Bool) (q:Option Addr) (m d:Nat) (x:Rat) (w:World) (h:Qs w s p n c t q m d x) (hx:hq x≤1000000000):
  Calls Tryz.prog 42 #[.agg #[.bool s,.slice p n c,.bool t,.slice q m d]] w fun e w'=>RetQ w' e (-x)∧Below w.heap.size w w':=by
 have HV:=Kh (neg_over x)
 have HS:=Kh h.sizes
 have HS1:=Kh (show nd (-x.num).natAbs≤4398046511100 by rw[Int.natAbs_neg];have:=hq_num x;omega)
 have HD:=Kh (fun w1 (hb:Below w.heap.size w w1)=>h.2.keep hb)
 have HC1:=Kh (fun w1 (hb:Below w.heap.size w w1)=>c_Neg s p n c x.num w1 (h.1.keep hb).raw (by have:=HS.out;omega))
 clear h
 go_enter Tryz.func42,Tryz.ntmps42
 go_upto_region 1 with(fail)
 obtain⟨w0,hw0,X0,X1,hb0⟩:=bx2 w #[.bool s,.slice p n c,.bool t,.slice q m d] 67 #[.bool false,.slice none 0 0,.bool false,.slice none 0 0] 67
 rw[hw0]
 have hs0:w.heap.size≤w0.heap.size:=hb0.size
 clear hw0
 have M1:True:=trivial
 have T1:=Sts.of X1 (by intro v hv;simp at hv;rcases hv with rfl|rfl|rfl|rfl <;> first|exact NotInt.bool _|exact NotInt.slice _ _ _)
 have hS0:=S4_4_next (Below.refl _ w0).drew ⟨X0.c0,X0.c1,X0.c2,X0.c3,X1.so 0,X1.free_ 0,T1,X1.so 1,X1.free_ 1,T1,X1.so 2,X1.free_ 2,T1,X1.so 3,X1.free_ 3,T1,hb0,hs0⟩
 clear X0 X1
 go_region_held3 (fun w1=>w1.cell? ⟨w.heap.size,0,none⟩=some (.bool s)∧w1.cell? ⟨w.heap.size,1,none⟩=some (.slice p n c)∧w1.cell? ⟨w.heap.size,2,none⟩=some (.bool t)∧w1.cell? ⟨w.heap.size,3,none⟩=some (.slice q m d)∧w1.cell? ⟨w.heap.size+1,0,none⟩=some (cellOf w1 ⟨w.heap.size+1,0,none⟩)∧w1.frozen? ⟨w.heap.size+1,0,none⟩=false∧Sts w1 (w.heap.size+1)∧w1.cell? ⟨w.heap.size+1,1,none⟩=some (cellOf w1 ⟨w.heap.size+1,1,none⟩)∧w1.frozen? ⟨w.heap.size+1,1,none⟩=false∧Sts w1 (w.heap.size+1)∧w1.cell? ⟨w.heap.size+1,2,none⟩=some (cellOf w1 ⟨w.heap.size+1,2,none⟩)∧w1.frozen? ⟨w.heap.size+1,2,none⟩=false∧Sts w1 (w.heap.size+1)∧w1.cell? ⟨w.heap.size+1,3,none⟩=some (cellOf w1 ⟨w.heap.size+1,3,none⟩)∧w1.frozen? ⟨w.heap.size+1,3,none⟩=false∧Sts w1 (w.heap.size+1)∧Below w.heap.size w w1∧w.heap.size≤w1.heap.size)
  (first|with_reducible exact hS0 |(refine S4_4_next (by with_reducible assumption) ?_;assumption) |(refine S4_4_put ?_ ?_ ?_ ?_ ?_ ?_ ?_ ?_ ?_ ?_ ?_ ?_ ?_ ?_ ?_ ?_ ?_ ?_ ?_ ?_ ?_ ?_ ?_ ?_ ?_ <;> first|assumption|exact NotInt.bool _|exact NotInt.slice _ _ _ |(dsimp only;omega) |(simp;done)))
  (first
   |(go_at_call 82;refine(HC1.out _ (S4_4_below (by with_reducible assumption))).mono ?_;rintro e w2 ⟨⟨s2,p2,n2,e2,rfl,hz2⟩,hb2⟩;have HZ2:=Kh hz2;have HB2:=Kh (show Below w.heap.size w w2 from Below.trans (S4_4_below (by with_reducible assumption)) (Below.mono hb2 (Below.size (S4_4_below (by with_reducible assumption)))));have HOV:=Kh (c_over s2 p2 n2 e2 (-x.num) t q m d x.den w2 HZ2.out.raw (HD.out _ HB2.out).raw (by rw[← HZ2.out.2.1];exact HS1.out) (by have:=HS.out;omega));clear hz2)
   |(go_at_call 55;refine HOV.out.mono ?_;rintro e w4 ⟨⟨s4,p4,n4,e4,t4,q4,m4,d4,rfl,hq4⟩,hb4⟩;clear hb2;obtain⟨⟨hR0,hT⟩,⟨hR1,_⟩,⟨hR2,_⟩,⟨hR3,_⟩⟩:=S4_4_end hb4 (by with_reducible assumption);have hq5:=Kh (hq4.put4 hT (.bool s4) (.slice p4 n4 e4) (.bool t4) (.slice q4 m4 d4) (NotInt.bool _) (NotInt.slice _ _ _) (NotInt.bool _));clear hq4 hT))
 go_wp2
 try simp only[Exit.inBlock,Exit.then]
 refine bodyPost_ret (by simp[results,Tryz.results42,go_sem,hR0,hR1,hR2,hR3];try rfl) rfl ?_
 exact⟨⟨s4,p4,n4,e4,t4,q4,m4,d4,rfl,HV.out▸hq5.out⟩,S4_4_below (by assumption)⟩
theorem c_qSubQ (s:Bool) (p:Option Addr) (n c:Nat) (t:Bool) (q:Option Addr) (m d:Nat) (x:Rat) (s':Bool) (p':Option Addr) (n' c':Nat) (t':Bool) (q':Option Addr) (m' d':Nat) (y:Rat) (w:World) (h:Qs w s p n c t q m d x) (h':Qs w s' p' n' c' t' q' m' d' y) (hx:hq x≤1000000000) (hy:hq y≤1000000000):
  Calls Tryz.prog 120 #[.agg #[.bool s,.slice p n c,.bool t,.slice q m d],.agg #[.bool s',.slice p' n' c',.bool t',.slice q' m' d']] w fun e w'=>RetQ w' e (x - y)∧Below w.heap.size w w':=by
 have HV:=Kh (Rat.sub_eq_add_neg x y).symm
 have HY:=Kh (show hq (-y)≤1000000000 by rw[hq,Rat.neg_num,Rat.neg_den,Int.natAbs_neg];exact hy)
 have HD:=Kh (fun w1 (hb:Below w.heap.size w w1)=>h.keep hb)
 have HC1:=Kh (fun w1 (hb:Below w.heap.size w w1)=>c_qNegQ s' p' n' c' t' q' m' d' y w1 (h'.keep hb) hy)
 clear h h'
 go_enter Tryz.func120,Tryz.ntmps120
 go_upto_region 1 with(fail)
 obtain⟨w0,hw0,X0,X1,X2,hb0⟩:=bx3 w #[.bool s,.slice p n c,.bool t,.slice q m d] 67 #[.bool s',.slice p' n' c',.bool t',.slice q' m' d'] 67 #[.bool false,.slice none 0 0,.bool false,.slice none 0 0] 67
 rw[hw0]
 have hs0:w.heap.size≤w0.heap.size:=hb0.size
 clear hw0
 have M1:True:=trivial
 have T2:=Sts.of X2 (by intro v hv;simp at hv;rcases hv with rfl|rfl|rfl|rfl <;> first|exact NotInt.bool _|exact NotInt.slice _ _ _)
 have hS0:=S8_4_next (Below.refl _ w0).drew ⟨X0.c0,X0.c1,X0.c2,X0.c3,X1.c0,X1.c1,X1.c2,X1.c3,X2.so 0,X2.free_ 0,T2,X2.so 1,X2.free_ 1,T2,X2.so 2,X2.free_ 2,T2,X2.so 3,X2.free_ 3,T2,hb0,hs0⟩
 clear X0 X1 X2
 go_region_held3 (fun w1=>w1.cell? ⟨w.heap.size,0,none⟩=some (.bool s)∧w1.cell? ⟨w.heap.size,1,none⟩=some (.slice p n c)∧w1.cell? ⟨w.heap.size,2,none⟩=some (.bool t)∧w1.cell? ⟨w.heap.size,3,none⟩=some (.slice q m d)∧w1.cell? ⟨w.heap.size+1,0,none⟩=some (.bool s')∧w1.cell? ⟨w.heap.size+1,1,none⟩=some (.slice p' n' c')∧w1.cell? ⟨w.heap.size+1,2,none⟩=some (.bool t')∧w1.cell? ⟨w.heap.size+1,3,none⟩=some (.slice q' m' d')∧w1.cell? ⟨w.heap.size+1+1,0,none⟩=some (cellOf w1 ⟨w.heap.size+1+1,0,none⟩)∧w1.frozen? ⟨w.heap.size+1+1,0,none⟩=false∧Sts w1 (w.heap.size+1+1)∧w1.cell? ⟨w.heap.size+1+1,1,none⟩=some (cellOf w1 ⟨w.heap.size+1+1,1,none⟩)∧w1.frozen? ⟨w.heap.size+1+1,1,none⟩=false∧Sts w1 (w.heap.size+1+1)∧w1.cell? ⟨w.heap.size+1+1,2,none⟩=some (cellOf w1 ⟨w.heap.size+1+1,2,none⟩)∧w1.frozen? ⟨w.heap.size+1+1,2,none⟩=false∧Sts w1 (w.heap.size+1+1)∧w1.cell? ⟨w.heap.size+1+1,3,none⟩=some (cellOf w1 ⟨w.heap.size+1+1,3,none⟩)∧w1.frozen? ⟨w.heap.size+1+1,3,none⟩=false∧Sts w1 (w.heap.size+1+1)∧Below w.heap.size w w1∧w.heap.size≤w1.heap.size)
  (first|with_reducible exact hS0 |(refine S8_4_next (by with_reducible assumption) ?_;assumption) |(refine S8_4_put ?_ ?_ ?_ ?_ ?_ ?_ ?_ ?_ ?_ ?_ ?_ ?_ ?_ ?_ ?_ ?_ ?_ ?_ ?_ ?_ ?_ ?_ ?_ ?_ ?_ ?_ ?_ ?_ ?_ ?_ ?_ ?_ ?_ ?_ ?_ ?_ ?_ ?_ ?_ ?_ ?_ <;> first|assumption|exact NotInt.bool _|exact NotInt.slice _ _ _ |(dsimp only;omega) |(simp;done)))
  (first
   |(go_at_call 42;refine(HC1.out _ (S8_4_below (by with_reducible assumption))).mono ?_;rintro e w2 ⟨⟨s2,p2,n2,e2,t2,q2,m2,d2,rfl,hz2⟩,hb2⟩;have HZ2:=Kh hz2;have HB2:=Kh (show Below w.heap.size w w2 from Below.trans (S8_4_below (by with_reducible assumption)) (Below.mono hb2 (Below.size (S8_4_below (by with_reducible assumption)))));have HOV:=Kh (c_qAddQ s p n c t q m d x s2 p2 n2 e2 t2 q2 m2 d2 (-y) w2 (HD.out _ HB2.out) HZ2.out hx HY.out);clear hz2)
   |(go_at_call 48;refine HOV.out.mono ?_;rintro e w4 ⟨⟨s4,p4,n4,e4,t4,q4,m4,d4,rfl,hq4⟩,hb4⟩;clear hb2;obtain⟨⟨hR0,hT⟩,⟨hR1,_⟩,⟨hR2,_⟩,⟨hR3,_⟩⟩:=S8_4_end hb4 (by with_reducible assumption);have hq5:=Kh (hq4.put4 hT (.bool s4) (.slice p4 n4 e4) (.bool t4) (.slice q4 m4 d4) (NotInt.bool _) (NotInt.slice _ _ _) (NotInt.bool _));clear hq4 hT))
 go_wp2
 try simp only[Exit.inBlock,Exit.then]
 refine bodyPost_ret (by simp[results,Tryz.results120,go_sem,hR0,hR1,hR2,hR3];try rfl) rfl ?_
 exact⟨⟨s4,p4,n4,e4,t4,q4,m4,d4,rfl,HV.out▸hq5.out⟩,S8_4_below (by assumption)⟩
theorem c_qWhole (s:Bool) (p:Option Addr) (n c:Nat) (z:Int) (w:World) (h:Zs w s p n c z) (hn:n≤1000000000):
  Calls Tryz.prog 79 #[.agg #[.bool s,.slice p n c]] w fun e w'=>RetQ w' e (z:Rat)∧Below w.heap.size w w':=by
 have HC:=Kh (fun w1 (hb:Below w.heap.size w w1)=>c_Normal s p n c z w1 (h.keep hb).raw (by omega))
 have HO:=Kh (fun w1=>c_Of 1 w1 (by omega) (by omega))
 clear h
 go_enter Tryz.func79,Tryz.ntmps79
 go_wp2_with fail
 obtain⟨w0,hw0,X1,X0,hb0⟩:=bx2 w #[.bool s,.slice p n c] 65 #[.bool false,.slice none 0 0,.bool false,.slice none 0 0] 67
 rw[hw0]
 have HX0:=Kh X0
 have HB0:=Kh hb0
 clear X0 X1 hb0 hw0
 refine(HC.out _ HB0.out).mono ?_
 rintro e w1 ⟨⟨s2,p2,n2,e2,rfl,hz2⟩,hb1⟩
 have HZ2:=Kh hz2
 have HB1:=bt HB0 hb1
 replace HX0:=Kh (bk HX0 hb1)
 clear hz2 hb1 HC
 go_wp2_with fail
 refine(HO.out _).mono ?_
 rintro e w2 ⟨⟨t2,q2,m2,d2,rfl,hz3⟩,hb2⟩
 have HQ:=Kh (show Qs w2 s2 p2 n2 e2 t2 q2 m2 d2 (z:Rat)from⟨HZ2.out.keep hb2,hz3⟩)
 have HR:=Kh (bk HX0 hb2)
 have HB:=bt HB1 hb2
 clear hz3 hb2 HX0 HB1 HZ2 HO HB0
 have r0:=HR.out.at_ 0 rfl
 have r1:=HR.out.at_ 1 rfl
 have r2:=HR.out.at_ 2 rfl
 have r3:=HR.out.at_ 3 rfl
 have f0:=HR.out.free_ 0
 have f1:=HR.out.free_ 1
 have f2:=HR.out.free_ 2
 have f3:=HR.out.free_ 3
 obtain⟨w9,hw9⟩:∃ w9,(((w2.setCell ⟨w.heap.size+1,0,none⟩ (.bool s2)).setCell ⟨w.heap.size+1,1,none⟩ (.slice p2 n2 e2)).setCell ⟨w.heap.size+1,2,none⟩ (.bool t2)).setCell ⟨w.heap.size+1,3,none⟩ (.slice q2 m2 d2)=w9:=⟨_,rfl⟩
 obtain⟨E0,E1,E2,E3,hq9⟩:=rat_put HR.out HQ.out hw9
 have hb9:Below w.heap.size w w9:=by rw[← hw9];exact below_putR HB.out (by omega) _ _ _ _
 have HW9:=Kh hw9
 have HE9:=Kh (And.intro E0 (And.intro E1 (And.intro E2 E3)))
 have HQ9:=Kh hq9
 have HB9:=Kh hb9
 clear E0 E1 E2 E3 hq9 hb9 hw9 HQ HB HR
 go_wp2
 try rw[HW9.out]
 obtain⟨E0,E1,E2,E3⟩:=HE9.out
 try simp only[Exit.inBlock,Exit.then]
 refine bodyPost_ret (by simp[results,Tryz.results79,go_sem,E0,E1,E2,E3];try rfl) rfl ?_
 exact⟨⟨s2,p2,n2,e2,t2,q2,m2,d2,rfl,HQ9.out⟩,HB9.out⟩
theorem c_qQuoQ (s:Bool) (p:Option Addr) (n c:Nat) (t:Bool) (q:Option Addr) (m d:Nat) (x:Rat) (s':Bool) (p':Option Addr) (n' c':Nat) (t':Bool) (q':Option Addr) (m' d':Nat) (y:Rat) (w:World) (h:Qs w s p n c t q m d x) (h':Qs w s' p' n' c' t' q' m' d' y) (hx:hq x≤1000000000) (hy:hq y≤1000000000) (h0:y≠0):
  Calls Tryz.prog 81 #[.agg #[.bool s,.slice p n c,.bool t,.slice q m d],.agg #[.bool s',.slice p' n' c',.bool t',.slice q' m' d']] w fun e w'=>(∃ s4 p4 n4 c4 t4 q4 m4 d4,e=.returned (.tuple #[.agg #[.bool s4,.slice p4 n4 c4,.bool t4,.slice q4 m4 d4],.int .i64 0])∧Qs w' s4 p4 n4 c4 t4 q4 m4 d4 (x / y))∧Below w.heap.size w w':=by
 have HV:=Kh (quo_over x y)
 have HS:=Kh (And.intro h.sizes h'.sizes)
 have HS1:=Kh (show nd (x.num*y.den).natAbs≤4398046511100 by rw[Int.natAbs_mul,Int.natAbs_natCast];have:=nd_mul x.num.natAbs y.den;have:=hq_num x;have:=hq_den y;omega)
 have HS2:=Kh (show nd (x.den*y.num).natAbs≤4398046511100 by rw[Int.natAbs_mul,Int.natAbs_natCast];have:=nd_mul x.den y.num.natAbs;have:=hq_den x;have:=hq_num y;omega)
 have HSG:=Kh (fun w1 (hb:Below w.heap.size w w1)=>c_qSignQ s' p' n' c' t' q' m' d' y w1 (h'.keep hb) hy)
 have HC1:=Kh (fun w1 (hb:Below w.heap.size w w1)=>c_Mul s p n c x.num t' q' m' d' y.den w1 (h.1.keep hb).raw (h'.2.keep hb).raw (by have:=HS.out;omega) (by have:=HS.out;omega))
 have HC2:=Kh (fun w1 (hb:Below w.heap.size w w1)=>c_Mul t q m d x.den s' p' n' c' y.num w1 (h.2.keep hb).raw (h'.1.keep hb).raw (by have:=HS.out;omega) (by have:=HS.out;omega))
 clear h h'
 go_enter Tryz.func81,Tryz.ntmps81
 go_wp2_with fail
 obtain⟨w0,hw0,X0,X1,X2,hb0⟩:=bx3 w #[.bool s,.slice p n c,.bool t,.slice q m d] 67 #[.bool s',.slice p' n' c',.bool t',.slice q' m' d'] 67 #[.bool false,.slice none 0 0,.bool false,.slice none 0 0] 67
 rw[hw0]
 have hs0:w.heap.size≤w0.heap.size:=hb0.size
 clear hw0
 have HX0:=Kh X0
 have HX1:=Kh X1
 have HX2:=Kh X2
 have HB0:=Kh hb0
 clear X0 X1 X2 hb0 hs0
 have r0:=HX1.out.at_ 0 rfl
 have r1:=HX1.out.at_ 1 rfl
 have r2:=HX1.out.at_ 2 rfl
 have r3:=HX1.out.at_ 3 rfl
 go_wp2_with fail
 refine(HSG.out _ HB0.out).mono ?_
 rintro e w1 ⟨⟨sg,rfl,hsg⟩,hb1⟩
 have hsg0:(sg==0)=false:=by
  have:sg≠0:=fun e=>h0 (hsg.1 e)
  simpa using this
 have hb0:=HB0.out.trans (hb1.mono HB0.out.size)
 have hs0:=hb0.size
 have X0:=bk HX0 hb1
 have X1:=bk HX1 hb1
 have X2:=bk HX2 hb1
 clear HSG HX0 HX1 HX2 HB0 hb1 hsg r0 r1 r2 r3
 obtain⟨w0,rfl⟩:∃ w0:World,w0=w1:=⟨_,rfl⟩
 go_upto_region 3 with(fail)
 have M1:True:=trivial
 have T2:=Sts.of X2 (by intro v hv;simp at hv;rcases hv with rfl|rfl|rfl|rfl <;> first|exact NotInt.bool _|exact NotInt.slice _ _ _)
 have hS0:=S8_4_next (Below.refl _ w0).drew ⟨X0.c0,X0.c1,X0.c2,X0.c3,X1.c0,X1.c1,X1.c2,X1.c3,X2.so 0,X2.free_ 0,T2,X2.so 1,X2.free_ 1,T2,X2.so 2,X2.free_ 2,T2,X2.so 3,X2.free_ 3,T2,hb0,hs0⟩
 clear X0 X1 X2
 go_region_held3 (fun w1=>w1.cell? ⟨w.heap.size,0,none⟩=some (.bool s)∧w1.cell? ⟨w.heap.size,1,none⟩=some (.slice p n c)∧w1.cell? ⟨w.heap.size,2,none⟩=some (.bool t)∧w1.cell? ⟨w.heap.size,3,none⟩=some (.slice q m d)∧w1.cell? ⟨w.heap.size+1,0,none⟩=some (.bool s')∧w1.cell? ⟨w.heap.size+1,1,none⟩=some (.slice p' n' c')∧w1.cell? ⟨w.heap.size+1,2,none⟩=some (.bool t')∧w1.cell? ⟨w.heap.size+1,3,none⟩=some (.slice q' m' d')∧w1.cell? ⟨w.heap.size+1+1,0,none⟩=some (cellOf w1 ⟨w.heap.size+1+1,0,none⟩)∧w1.frozen? ⟨w.heap.size+1+1,0,none⟩=false∧Sts w1 (w.heap.size+1+1)∧w1.cell? ⟨w.heap.size+1+1,1,none⟩=some (cellOf w1 ⟨w.heap.size+1+1,1,none⟩)∧w1.frozen? ⟨w.heap.size+1+1,1,none⟩=false∧Sts w1 (w.heap.size+1+1)∧w1.cell? ⟨w.heap.size+1+1,2,none⟩=some (cellOf w1 ⟨w.heap.size+1+1,2,none⟩)∧w1.frozen? ⟨w.heap.size+1+1,2,none⟩=false∧Sts w1 (w.heap.size+1+1)∧w1.cell? ⟨w.heap.size+1+1,3,none⟩=some (cellOf w1 ⟨w.heap.size+1+1,3,none⟩)∧w1.frozen? ⟨w.heap.size+1+1,3,none⟩=false∧Sts w1 (w.heap.size+1+1)∧Below w.heap.size w w1∧w.heap.size≤w1.heap.size)
  (first|with_reducible exact hS0 |(refine S8_4_next (by with_reducible assumption) ?_;assumption) |(refine S8_4_put ?_ ?_ ?_ ?_ ?_ ?_ ?_ ?_ ?_ ?_ ?_ ?_ ?_ ?_ ?_ ?_ ?_ ?_ ?_ ?_ ?_ ?_ ?_ ?_ ?_ ?_ ?_ ?_ ?_ ?_ ?_ ?_ ?_ ?_ ?_ ?_ ?_ ?_ ?_ ?_ ?_ <;> first|assumption|exact NotInt.bool _|exact NotInt.slice _ _ _ |(dsimp only;omega) |(simp;done)))
  (first
   |(go_at_call 56;clear M1;refine(HC1.out _ (S8_4_below (by with_reducible assumption))).mono ?_;rintro e w2 ⟨⟨s2,p2,n2,e2,rfl,hz2⟩,hb2⟩;have HZ2:=Kh hz2;clear hz2)
   |(go_at_call 56;refine(HC2.out _ (S8_4_below (by with_reducible assumption))).mono ?_;rintro e w3 ⟨⟨s3,p3,n3,e3,rfl,hz3⟩,hb3⟩;have HOV:=Kh (c_over s2 p2 n2 e2 (x.num*y.den) s3 p3 n3 e3 (x.den*y.num) w3 (HZ2.out.keep hb3).raw hz3.raw (by rw[← HZ2.out.2.1];exact HS1.out) (by rw[← hz3.2.1];exact HS2.out));clear hz3 hb2 HZ2)
   |(go_at_call 55;refine HOV.out.mono ?_;rintro e w4 ⟨⟨s4,p4,n4,e4,t4,q4,m4,d4,rfl,hq4⟩,hb4⟩;clear hb3;obtain⟨⟨hR0,hT⟩,⟨hR1,_⟩,⟨hR2,_⟩,⟨hR3,_⟩⟩:=S8_4_end hb4 (by with_reducible assumption);have hq5:=Kh (hq4.put4 hT (.bool s4) (.slice p4 n4 e4) (.bool t4) (.slice q4 m4 d4) (NotInt.bool _) (NotInt.slice _ _ _) (NotInt.bool _));clear hq4 hT))
 go_wp2
 try simp only[Exit.inBlock,Exit.then]
 refine bodyPost_ret (by simp[results,Tryz.results81,go_sem,hR0,hR1,hR2,hR3];try rfl) rfl ?_
 exact⟨⟨s4,p4,n4,e4,t4,q4,m4,d4,rfl,HV.out▸hq5.out⟩,S8_4_below (by assumption)⟩
end Go.Proofs.YtijgdhijdfgpfaaGreatDoor
namespace Go.Proofs.YtijgdhijdfgpfaaGreatDoor
namespace Sie
theorem filter_split {α:Type} (l:List α) (f:α→Nat) (W:Nat) (hf:∀ x∈l,f x<W+1):l.length=(l.filter (fun x=>f x=W)).length+(l.filter (fun x=>f x<W)).length:=by
 induction l with
 | nil=>rfl
 | cons x l ih=>
  have h1:=ih (fun y hy=>hf y (List.mem_cons_of_mem _ hy))
  have h2:=hf x (List.mem_cons_self ..)
  by_cases h:f x=W
  ·have h3:¬ f x<W:=by omega
   simp only[List.filter_cons,h,decide_true,if_true,List.length_cons,Nat.lt_irrefl,decide_false,Bool.false_eq_true,if_false]
   omega
  ·have h3:f x<W:=by omega
   simp only[List.filter_cons,h,decide_false,Bool.false_eq_true,if_false,List.length_cons,h3,decide_true,if_true]
   omega
theorem box {α:Type} (W:Nat):∀ (l:List α) (f:α→Nat) (c:Nat),(∀ x∈l,f x<W)→W*c<l.length→∃ v,v<W∧c<(l.filter (fun x=>f x=v)).length:=by
 induction W with
 | zero=>
  intro l f c hf hl
  cases l with
  | nil=>simp at hl
  | cons x l=>exact absurd (hf x (List.mem_cons_self ..)) (Nat.not_lt_zero _)
 | succ W ih=>
  intro l f c hf hl
  have h1:=filter_split l f W hf
  by_cases h:c<(l.filter (fun x=>f x=W)).length
  ·exact⟨W,Nat.lt_succ_self _,h⟩
  ·have h2:W*c<(l.filter (fun x=>f x<W)).length:=by
    rw[Nat.succ_mul]at hl
    omega
   obtain⟨v,hv,hc⟩:=ih (l.filter (fun x=>f x<W)) f c (fun x hx=>by simpa using (List.mem_filter.1 hx).2) h2
   refine⟨v,by omega,Nat.lt_of_lt_of_le hc ?_⟩
   rw[List.filter_filter]
   exact Nat.le_of_eq (congrArg List.length (List.filter_congr fun x _=>by
    by_cases h:f x=v
    ·simp[h,hv]
    ·simp[h]))
theorem two (W:Nat) (n:Nat):∀ (l:List Nat) (s:Nat→Nat→Nat),l.Nodup→(∀ q,q<n→∀ x∈l,s q x<W)→W ^ n<l.length→∃ x y,x∈l∧y∈l∧x≠y∧∀ q,q<n→s q x=s q y:=by
 induction n with
 | zero=>
  intro l s hl hs hc
  rw[Nat.pow_zero]at hc
  match l,hl,hc with
  | x :: y :: l,hl,_=>
   refine⟨x,y,List.mem_cons_self ..,List.mem_cons_of_mem _ (List.mem_cons_self ..),?_,fun q hq=>absurd hq (Nat.not_lt_zero _)⟩
   intro h
   rw[List.nodup_cons]at hl
   exact hl.1 (h▸List.mem_cons_self ..)
 | succ n ih=>
  intro l s hl hs hc
  rw[Nat.pow_succ,Nat.mul_comm]at hc
  obtain⟨v,_,h2⟩:=box W l (s n) (W ^ n) (hs n (Nat.lt_succ_self _)) hc
  obtain⟨x,y,hx,hy,hne,he⟩:=ih (l.filter (fun x=>s n x=v)) s (hl.sublist List.filter_sublist) (fun q hq x hx=>hs q (by omega) x (List.mem_filter.1 hx).1) h2
  have ax:=List.mem_filter.1 hx
  have ay:=List.mem_filter.1 hy
  refine⟨x,y,ax.1,ay.1,hne,fun q hq=>?_⟩
  by_cases h:q=n
  ·subst h
   have b1:=ax.2
   have b2:=ay.2
   simp at b1 b2
   rw[b1,b2]
  ·exact he q (by omega)
theorem digits (r:Nat) (k:Nat):∀ x y:Nat,x<r ^ k→y<r ^ k→(∀ i,i<k→x / r ^ i % r=y / r ^ i % r)→x=y:=by
 induction k with
 | zero=>intro x y hx hy _;rw[Nat.pow_zero]at hx hy;omega
 | succ k ih=>
  intro x y hx hy h
  have h0:=h 0 (Nat.succ_pos _)
  rw[Nat.pow_zero,Nat.div_one,Nat.div_one]at h0
  rw[Nat.pow_succ]at hx hy
  have h1:x / r=y / r:=by
   refine ih (x / r) (y / r) (Nat.div_lt_of_lt_mul (by rw[Nat.mul_comm];exact hx)) (Nat.div_lt_of_lt_mul (by rw[Nat.mul_comm];exact hy)) (fun i hi=>?_)
   have h2:=h (i+1) (by omega)
   rw[Nat.pow_succ,Nat.mul_comm,← Nat.div_div_eq_div_mul,← Nat.div_div_eq_div_mul]at h2
   exact h2
  have e1:=Nat.div_add_mod x r
  have e2:=Nat.div_add_mod y r
  rw[h1]at e1
  rw[← e1,h0,e2]
def sum (f:Nat→Int):Nat→Int
 | 0=>0
 | n+1=>sum f n+f n
theorem sum_sub (f g:Nat→Int) (n:Nat):sum (fun i=>f i - g i) n=sum f n - sum g n:=by
 induction n with
 | zero=>rfl
 | succ n ih=>rw[sum,sum,sum,ih];omega
theorem sum_bound {f:Nat→Int} {n:Nat} {K:Int} (h:∀ i,i<n→-K≤f i∧f i≤K):-(n*K)≤sum f n∧sum f n≤n*K:=by
 induction n with
 | zero=>rw[sum];omega
 | succ n ih=>
  have h1:=ih (fun i hi=>h i (by omega))
  have h2:=h n (Nat.lt_succ_self _)
  have h3:((n+1:Nat):Int)*K=(n:Int)*K+K:=by rw[Int.natCast_add,Int.add_mul];omega
  rw[sum,h3]
  omega
theorem mul_bound {a x:Int} {B X:Nat} (ha:a.natAbs≤B) (h0:0≤x) (hx:x≤X):-((B:Int)*X)≤a*x∧a*x≤(B:Int)*X:=by
 have h1:(a*x).natAbs≤B*X:=by
  rw[Int.natAbs_mul]
  exact Nat.mul_le_mul ha (by omega)
 have h2:((B*X:Nat):Int)=(B:Int)*X:=by rw[Int.natCast_mul]
 omega
def cap (n B:Nat):Nat:=(2*(n+1)*B+1) ^ n
theorem room (n B:Nat):(2*(n+1)*B*cap n B+1) ^ n<(cap n B+1) ^ (n+1):=by
 have h0:0<cap n B:=Nat.pow_pos (Nat.succ_pos _)
 have h1:2*(n+1)*B*cap n B+1≤(2*(n+1)*B+1)*cap n B:=by
  rw[Nat.add_mul,Nat.one_mul]
  omega
 have h2:=Nat.pow_le_pow_left h1 n
 rw[Nat.mul_pow]at h2
 have h3:(2*(n+1)*B+1) ^ n=cap n B:=rfl
 rw[h3]at h2
 have h4:cap n B ^ n≤(cap n B+1) ^ n:=Nat.pow_le_pow_left (Nat.le_succ _) n
 have h5:0<(cap n B+1) ^ n:=Nat.pow_pos (Nat.succ_pos _)
 have h6:cap n B*cap n B ^ n≤cap n B*(cap n B+1) ^ n:=Nat.mul_le_mul_left _ h4
 have h7:(cap n B+1) ^ (n+1)=cap n B*(cap n B+1) ^ n+(cap n B+1) ^ n:=by rw[Nat.pow_succ,Nat.mul_comm,Nat.add_mul,Nat.one_mul]
 omega
theorem small (n B:Nat) (a:Nat→Nat→Int) (ha:∀ q i,q<n→i<n+1→(a q i).natAbs≤B):
  ∃ m:Nat→Int,(∃ i,i<n+1∧m i≠0)∧(∀ i,i<n+1→(m i).natAbs≤cap n B)∧∀ q,q<n→sum (fun i=>a q i*m i) (n+1)=0:=by
 obtain⟨X,hX⟩:∃ X,cap n B=X:=⟨_,rfl⟩
 have hroom:=room n B
 rw[hX]at hroom ⊢
 obtain⟨r,hr⟩:∃ r,X+1=r:=⟨_,rfl⟩
 rw[hr]at hroom
 obtain⟨d,hd⟩:∃ d:Nat→Nat→Int,d=fun x i=>((x / r ^ i % r:Nat):Int):=⟨_,rfl⟩
 have hd0:∀ x i,0≤d x i∧d x i≤(X:Int):=fun x i=>by
  have h1:x / r ^ i % r<r:=Nat.mod_lt _ (by omega)
  rw[hd]
  dsimp only
  omega
 have hb:∀ q x,q<n→-((n+1:Nat)*((B:Int)*X))≤sum (fun i=>a q i*d x i) (n+1)∧sum (fun i=>a q i*d x i) (n+1)≤(n+1:Nat)*((B:Int)*X):=fun q x hq=>
  sum_bound (fun i hi=>mul_bound (ha q i hq hi) (hd0 x i).1 (hd0 x i).2)
 obtain⟨T,hT⟩:∃ T:Nat,(n+1)*(B*X)=T:=⟨_,rfl⟩
 have hTi:((n+1:Nat):Int)*((B:Int)*X)=(T:Int):=by rw[← hT,Int.natCast_mul,Int.natCast_mul]
 have hW:2*(n+1)*B*X+1=2*T+1:=by rw[← hT,Nat.mul_assoc 2,Nat.mul_assoc 2,Nat.mul_assoc (n+1)]
 rw[hW]at hroom
 obtain⟨x,y,hx,hy,hne,he⟩:=two (2*T+1) n (List.range (r ^ (n+1))) (fun q x=>(sum (fun i=>a q i*d x i) (n+1)+T).toNat) List.nodup_range (fun q hq x _=>by
  have h1:=hb q x hq
  rw[hTi]at h1
  omega) (by rw[List.length_range];exact hroom)
 rw[List.mem_range]at hx hy
 refine⟨fun i=>d x i - d y i,?_,fun i hi=>?_,fun q hq=>?_⟩
 ·refine Classical.byContradiction fun hno=>hne (digits r (n+1) x y hx hy fun i hi=>?_)
  have h1:d x i - d y i=0:=Classical.byContradiction fun h=>hno ⟨i,hi,h⟩
  rw[hd]at h1
  dsimp only at h1
  omega
 ·have h1:=hd0 x i
  have h2:=hd0 y i
  show(d x i - d y i).natAbs≤X
  omega
 ·have h1:=he q hq
  have h2:=hb q x hq
  have h3:=hb q y hq
  rw[hTi]at h2 h3
  have h4:(fun i=>a q i*(d x i - d y i))=fun i=>a q i*d x i - a q i*d y i:=by funext i;rw[Int.mul_sub]
  rw[h4,sum_sub]
  omega
end Sie
end Go.Proofs.YtijgdhijdfgpfaaGreatDoor
