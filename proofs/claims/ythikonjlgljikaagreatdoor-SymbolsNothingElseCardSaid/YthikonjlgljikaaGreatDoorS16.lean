/- Contracts of halfplanebase: SameRat, SameRats (equal lists). -/
import Derived.Test.YthikonjlgljikaaGreatDoorS15
import Derived.Test.YthikonjlgljikaaGreatDoorS13
set_option linter.unusedSimpArgs false
set_option maxRecDepth 100000
set_option maxHeartbeats 8000000
namespace Go.Proofs.YthikonjlgljikaaGreatDoor
open Go.RowKit
theorem c_SameRat (s:Bool) (p:Option Addr) (n c:Nat) (t:Bool) (q:Option Addr) (m d:Nat) (x:Rat) (s':Bool) (p':Option Addr) (n' c':Nat) (t':Bool) (q':Option Addr) (m' d':Nat) (y:Rat) (w:World) (h:Qs w s p n c t q m d x) (h':Qs w s' p' n' c' t' q' m' d' y) (hx:hq x≤35184372088830):
  Calls Tryz.prog 40 #[.agg #[.bool s,.slice p n c,.bool t,.slice q m d],.agg #[.bool s',.slice p' n' c',.bool t',.slice q' m' d']] w fun e w'=>e=.returned (.bool (decide (x=y)))∧Below w.heap.size w w':=by
 obtain⟨r,hr⟩:∃ r,decide (x=y)=r:=⟨_,rfl⟩
 rw[hr]
 have HR:=Kh hr
 have HS:=Kh h.sizes
 have H1:=Kh (fun w1 (hb:Below w.heap.size w w1)=>c_SameInt s p n c x.num s' p' n' c' y.num w1 (h.1.keep hb) (h'.1.keep hb) (by have:=h.sizes;omega))
 have H2:=Kh (fun w1 (hb:Below w.heap.size w w1)=>c_SameInt t q m d x.den t' q' m' d' y.den w1 (h.2.keep hb) (h'.2.keep hb) (by have:=h.sizes;omega))
 clear h h' hx hr
 go_enter Tryz.func40,Tryz.ntmps40
 go_wp2_with fail
 obtain⟨w0,hw0,X0,X1,hb0⟩:=bx2 w #[.bool s,.slice p n c,.bool t,.slice q m d] 35 #[.bool s',.slice p' n' c',.bool t',.slice q' m' d'] 35
 rw[hw0]
 have hs0:w.heap.size≤w0.heap.size:=hb0.size
 clear hw0
 have a0:=X0.at_ 0 rfl
 have a1:=X0.at_ 1 rfl
 have b0:=X1.at_ 0 rfl
 have b1:=X1.at_ 1 rfl
 have HX0:=Kh X0
 have HX1:=Kh X1
 have HB:=Kh hb0
 clear X0 X1 hb0 hs0
 refine(H1.out w0 HB.out).mono ?_
 rintro e w1 ⟨rfl,hb1⟩
 have HB1:=bt HB hb1
 replace HX0:=Kh (bk HX0 hb1)
 replace HX1:=Kh (bk HX1 hb1)
 have a2:=HX0.out.at_ 2 rfl
 have a3:=HX0.out.at_ 3 rfl
 have b2:=HX1.out.at_ 2 rfl
 have b3:=HX1.out.at_ 3 rfl
 clear hb1 a0 a1 b0 b1 HB H1
 by_cases h1:x.num=y.num
 ·rw[decide_eq_true h1]
  go_wp2_with fail
  refine(H2.out w1 HB1.out).mono ?_
  rintro e w2 ⟨rfl,hb2⟩
  have HB2:=bt HB1 hb2
  obtain⟨z,hz⟩:∃ z,decide ((x.den:Int)=y.den)=z:=⟨_,rfl⟩
  have HE:=Kh (show z=r by
   rw[← HR.out,← hz,decide_eq_decide]
   exact⟨fun h=>Rat.ext h1 (by omega),fun h=>by rw[h]⟩)
  rw[hz]
  clear hb2 H2 HB1 hz h1 HR
  go_wp2
  go_ret
  exact⟨ret_b HE.out,HB2.out⟩
 ·rw[decide_eq_false h1]
  have HE:=Kh (show false=r by
   rw[← HR.out]
   exact(decide_eq_false fun h=>h1 (by rw[h])).symm)
  clear H2 h1 HR
  go_wp2
  go_ret
  exact⟨ret_b HE.out,HB1.out⟩
theorem c_SameRats_eq (v1 v2:Value) (n:Nat) (f:Nat→Rat) (w:World) (h1:QL (fun j=>IsQ (f j)) w v1 n) (h2:QL (fun j=>IsQ (f j)) w v2 n) (hn:n≤1000000) (hf:∀ j,j<n→hq (f j)≤35184372088830):
  Calls Tryz.prog 23 #[v1,v2] w fun e w'=>e=.returned (.bool true)∧Below w.heap.size w w':=by
 rcases Nat.eq_zero_or_pos n with rfl|hpos
 ·have e1:∃ a c,v1=.slice a 0 c:=by
   rcases h1 with⟨_,h⟩ |⟨_,_,_,e,_⟩
   ·exact h
   ·exact⟨_,_,e⟩
  have e2:∃ a c,v2=.slice a 0 c:=by
   rcases h2 with⟨_,h⟩ |⟨_,_,_,e,_⟩
   ·exact h
   ·exact⟨_,_,e⟩
  obtain⟨a1,c1,rfl⟩:=e1
  obtain⟨a2,c2,rfl⟩:=e2
  clear h1 h2 hf hn
  go_enter Tryz.func23,Tryz.ntmps23
  go_wp2
  go_loopw [5] (fun i wr=>i=.int .i64 0∧wr=w) (fun _ _=>0)
  case atStart=>exact⟨rfl,rfl⟩
  case round=>
   obtain⟨rfl,rfl⟩:=hrel
   go_wp2
   go_ret
   exact⟨rfl,Below.refl _ _⟩
 ·obtain⟨g1,o1,l1,rfl,hg1,r1⟩:=h1.resolve_left (fun h=>by omega)
  obtain⟨g2,o2,l2,rfl,hg2,r2⟩:=h2.resolve_left (fun h=>by omega)
  have R1:=Kh r1
  have R2:=Kh r2
  have HF:=Kh hf
  clear h1 h2 r1 r2 hf
  go_enter Tryz.func23,Tryz.ntmps23
  go_wp2
  go_loopw [5] (fun i wr=>∃ k:Nat,k≤n∧i=.int .i64 k∧Below w.heap.size w wr) (fun i _=>n - (intOf i).toNat)
  case atStart=>exact⟨0,Nat.zero_le _,rfl,Below.refl _ _⟩
  case round=>
   obtain⟨k,hk,rfl,hb⟩:=hrel
   by_cases hlt:k<n
   ·have HB:=Kh hb
    obtain⟨s,p,i1,c,t,q,m,d,a0,a1,a2,a3,hx⟩:=(R1.out k hlt).keep (IsQ.solid _) hb
    obtain⟨s',p',i1',c',t',q',m',d',b0,b1,b2,b3,hy⟩:=(R2.out k hlt).keep (IsQ.solid _) hb
    have HC:=Kh (fun w1 (h:Below wr.heap.size wr w1)=>c_SameRat s p i1 c t q m d (f k) s' p' i1' c' t' q' m' d' (f k) w1 (Qs.keep hx h) (Qs.keep hy h) (HF.out k hlt))
    simp only[decide_true]at HC
    clear hx hy hb
    go_upto_region 6 with(fail)
    have hS0:=S8_0_next (Below.refl _ wr).drew ⟨a0,a1,a2,a3,b0,b1,b2,b3,Below.refl _ _,Below.size (show Below wr.heap.size wr wr from Below.refl _ _)⟩
    clear a0 a1 a2 a3 b0 b1 b2 b3
    have M1:True:=trivial
    go_region_held3 (fun w1=>w1.cell? ⟨g1,o1+k*4,none⟩=some (.bool s)∧w1.cell? ⟨g1,o1+k*4+1,none⟩=some (.slice p i1 c)∧w1.cell? ⟨g1,o1+k*4+2,none⟩=some (.bool t)∧w1.cell? ⟨g1,o1+k*4+3,none⟩=some (.slice q m d)∧w1.cell? ⟨g2,o2+k*4,none⟩=some (.bool s')∧w1.cell? ⟨g2,o2+k*4+1,none⟩=some (.slice p' i1' c')∧w1.cell? ⟨g2,o2+k*4+2,none⟩=some (.bool t')∧w1.cell? ⟨g2,o2+k*4+3,none⟩=some (.slice q' m' d')∧Below wr.heap.size wr w1∧wr.heap.size≤w1.heap.size)
     (first|with_reducible exact hS0 |(refine S8_0_next (by with_reducible assumption) ?_;assumption))
     (first
      |(go_at_call 40;refine(HC.out _ (S8_0_below (by with_reducible assumption))).mono ?_;rintro e w2 ⟨rfl,hb2⟩;have HB2:=Kh (Below.trans HB.out (Below.mono (Below.trans (S8_0_below (by with_reducible assumption)) (Below.mono hb2 (Below.size (S8_0_below (by with_reducible assumption))))) HB.out.size))))
    go_wp2
    go_roundw
    case rel=>exact⟨k+1,by omega,by go_num,HB2.out⟩
    case measure=>simp[intOf];omega
   ·obtain rfl:k=n:=by omega
    have HB:=Kh hb
    clear hb
    go_wp2
    go_ret
    exact⟨rfl,HB.out⟩
theorem ratInfo:(Tryz.prog.info? 35).map (fun i=>(i.zero,i.size,i.bytes))=some (some (.agg #[.bool false,.slice none 0 0,.bool false,.slice none 0 0]),4,64):=by kernel_rfl
theorem one4 (s t:Bool) (p q:Option Addr) (n c m d:Nat):∀ u∈[Value.bool s,.slice p n c,.bool t,.slice q m d],u.oneCell'=true:=by
 intro u hu
 simp at hu
 rcases hu with rfl|rfl|rfl|rfl <;> rfl
theorem ni4 (s t:Bool) (p q:Option Addr) (n c m d:Nat):∀ u∈[Value.bool s,.slice p n c,.bool t,.slice q m d],NotInt u:=by
 intro u hu
 simp at hu
 rcases hu with rfl|rfl|rfl|rfl <;> first|exact NotInt.bool _|exact NotInt.slice _ _ _
theorem niz:∀ u∈(Value.agg #[.bool false,.slice none 0 0,.bool false,.slice none 0 0]).cells.toList,NotInt u:=by
 intro u hu
 simp[Value.cells]at hu
 rcases hu with rfl|rfl|rfl|rfl <;> first|exact NotInt.bool _|exact NotInt.slice _ _ _
theorem run_clone {P:Program} (w:World) (ty:TypeId) (hU:P.underlying 31=some (.slice 187)) (hinfo:(P.info? 187).map (fun i=>(i.zero,i.size,i.bytes))=some (some (.int .u32 0),1,4)) (g:Nat)
  (hown:w.ownsRow g 187 1 (.slice (some ⟨g,0,none⟩) 0 0) 0 []) {p:Option Addr} {c n:Nat} {a:Nat→Nat} (hd:Dg w p c n a) (hn:n≤1000) (hg:g≤w.heap.size):
  ∃ p' c' w',(Builtin.append_ #[31,31] ty #[.slice (some ⟨g,0,none⟩) 0 0,.slice p n c]).run P w=.ok (.slice p' n c') w'∧Dg w' p' c' n a∧w.grownBy w' (some g):=by
 obtain⟨i0,hi,hz0,hz1,hz2⟩:=info_parts hinfo
 cases p with
 | none=>
  obtain rfl:n=0:=by
   rcases hd.at' with h1 |⟨g,o,e,_⟩
   ·exact h1
   ·cases e
  have hr:=run_app_nil (P:=P) (w:=w) g 31 ty 187 i0 1 hU hi _ _ c _ hown
  exact⟨_,_,w,hr,⟨Nat.le_refl _,hd.lt,.inl rfl⟩,⟨rfl,rfl,rfl,Nat.le_refl _,fun _ _ _=>rfl⟩⟩
 | some q=>
  have hcell:∀ (j:Nat) (u:Value),(cells32 a n)[j]?=some u→w.cell? (q.add j)=some u:=by
   intro j u hu
   obtain⟨hj,rfl⟩:=cells32_of hu
   obtain⟨g,o',e,hg,hc⟩:=hd.head (by omega)
   injection e with e
   subst e
   rw[Addr.add_lit]
   exact hc j hj
  obtain⟨v',w',hr,g1,g2,_,_⟩:=run_append_own_at (P:=P) w g 31 ty 187 i0 (.int .u32 0) 1 4 hU hi hz0 hz1 hz2 rfl (by decide) _ 0 [] hown q n c (cells32 a n) (by rw[cells32_len,Nat.mul_one]) hcell cells32_one (by unfold maxLen;omega) (by omega) hg
  obtain⟨p',c',rfl,hd'⟩:=Dg.of_own (n:=n) (a:=a) (by simpa using g1) hd.lt
  refine⟨p',c',w',?_,hd',g2⟩
  rw[hr]
theorem step_clone {P:Program} {w:World} {ops:Array Oper} {o:Oper} {b:Act} {K:Act→World→Prop} {Q:Exit→Act→World→Prop} {E:Prop} (hgd:o.guard=none) (s x:Operand)
  (ho:o.op=.call { callee:=.builtin .append,args:=#[s,x],argTypes:=#[31,31] })
  (hU:P.underlying 31=some (.slice 187)) (hinfo:(P.info? 187).map (fun i=>(i.zero,i.size,i.bytes))=some (some (.int .u32 0),1,4)) (g:Nat) (hs:b.eval s=.slice (some ⟨g,0,none⟩) 0 0)
  (hown:w.ownsRow g 187 1 (.slice (some ⟨g,0,none⟩) 0 0) 0 []) {p:Option Addr} {c n:Nat} {a:Nat→Nat} (hx:b.eval x=.slice p n c) (hd:Dg w p c n a) (hn:n≤1000) (hg:g≤w.heap.size)
  (h:∀ p' c' w',Dg w' p' c' n a→w.grownBy w' (some g)→K (b.put o.dst (.slice p' n c')) w'):
  if Region.wanted o (yielded ops b.tmps)=true then Oper.wp P o b w K Q else E:=by
 have hw:Region.wanted o (yielded ops b.tmps)=true:=by simp[Region.wanted,hgd]
 rw[if_pos hw]
 obtain⟨p',c',w',hr,h2,h3⟩:=run_clone (P:=P) w o.type hU hinfo g hown hd hn hg
 unfold Oper.wp execOp
 simp only[ho,resolve,invoke,builtin,Sem.run_bind,Sem.run_pure,Result.andThen_ok,List.map_toArray,List.map_cons,List.map_nil,hs,hx,hr]
 exact h p' c' w' h2 h3
def ZE (z:Int) (w:World) (g i:Nat):Prop:=∃ s p n c,w.cell? ⟨g,i,none⟩=some (.bool s)∧w.cell? ⟨g,i+1,none⟩=some (.slice p n c)∧Zs w s p n c z
theorem ZE.keep {z:Int} {w w':World} {g i:Nat} (h:ZE z w g i) (hb:Below w.heap.size w w'):ZE z w' g i:=by
 obtain⟨s,p,n,c,h0,h1,h4⟩:=h
 have hk:∀ j v,w.cell? ⟨g,j,none⟩=some v→w'.cell? ⟨g,j,none⟩=some v:=fun j v e=>(hb.cell (p:=⟨g,j,none⟩) (World.block_lt_of_cell? w ⟨g,j,none⟩ e)).trans e
 exact⟨s,p,n,c,hk _ _ h0,hk _ _ h1,h4.i32 (I32.below hb)⟩
def ZL (f:Nat→Int) (w:World) (v:Value) (n:Nat):Prop:=(n=0∧∃ a c,v=.slice a 0 c)∨∃ g o cap,v=.slice (some ⟨g,o,none⟩) n cap∧g<w.heap.size∧∀ j,j<n→ZE (f j) w g (o+j*2)
theorem ZL.keep {f:Nat→Int} {w w':World} {v:Value} {n:Nat} (h:ZL f w v n) (hb:Below w.heap.size w w'):ZL f w' v n:=by
 rcases h with h |⟨g,o,cap,e,hg,hc⟩
 ·exact .inl h
 ·exact .inr ⟨g,o,cap,e,Nat.lt_of_lt_of_le hg hb.size,fun j hj=>(hc j hj).keep hb⟩
structure ZRow (f:Nat→Int) (w:World) (g N k:Nat):Prop where
 sts:Sts w g
 free:∀ i,i<N*2→w.frozen? ⟨g,i,none⟩=false
 has:∀ i,i<N*2→(w.cell? ⟨g,i,none⟩).isSome=true
 val:∀ j,j<k→ZE (f j) w g (j*2)
theorem ZRow.keep {f:Nat→Int} {w w':World} {g N k:Nat} (h:ZRow f w g N k) (hb:Below w.heap.size w w'):ZRow f w' g N k:=
 ⟨h.sts.next hb,fun i hi=>frozen_keep hb (h.has i hi) (h.free i hi),fun i hi=>by rw[hb.cell (p:=⟨g,i,none⟩) h.sts.1];exact h.has i hi,fun j hj=>(h.val j hj).keep hb⟩
theorem ZRow.congr {f f':Nat→Int} {w:World} {g N k:Nat} (h:ZRow f w g N k) (e:∀ j,j<k→f j=f' j):ZRow f' w g N k:=⟨h.sts,h.free,h.has,fun j hj=>by rw[← e j hj];exact h.val j hj⟩
theorem ZRow.set {f:Nat→Int} {w:World} {g N k k':Nat} (h:ZRow f w g N k) (j:Nat) (hj:j<N) (f':Nat→Int) (hk:∀ i,i<k'→i≠j→i<k∧f i=f' i)
  {s:Bool} {p:Option Addr} {n c:Nat} (hq:Zs w s p n c (f' j)):
  ZRow f' ((w.setCell ⟨g,j*2,none⟩ (.bool s)).setCell ⟨g,j*2+1,none⟩ (.slice p n c)) g N k':=by
 have h32:=I32.put2 h.sts (j*2) (j*2+1) (.bool s) (.slice p n c) (NotInt.bool _)
 have s1:=h.sts.put ⟨g,j*2,none⟩ (.bool s) (NotInt.bool _)
 have s2:=s1.put ⟨g,j*2+1,none⟩ (.slice p n c) (NotInt.slice _ _ _)
 refine⟨s2,fun i hi=>frozen_set (frozen_set (h.free i hi)),fun i hi=>some_put (some_put (h.has i hi)),fun i hi=>?_⟩
 by_cases hij:i=j
 ·subst hij
  have c0:=h.has (i*2) (by omega)
  have c1:=some_put (R:=g) (i:=i*2) (u:=.bool s) (h.has (i*2+1) (by omega))
  refine⟨s,p,n,c,?_,?_,hq.i32 h32⟩
  ·rw[World.cell?_setCell_other _ _ _ _ (by simp),World.cell?_setCell_same' _ _ _ c0]
  ·rw[World.cell?_setCell_same' _ _ _ c1]
 ·obtain⟨hik,e⟩:=hk i hi hij
  obtain⟨s',p',n',c',e0,e1,e4⟩:=h.val i hik
  rw[← e]
  have far:∀ (x:Nat) (v:Value),i*2≤x→x<i*2+2→w.cell? ⟨g,x,none⟩=some v→((w.setCell ⟨g,j*2,none⟩ (.bool s)).setCell ⟨g,j*2+1,none⟩ (.slice p n c)).cell? ⟨g,x,none⟩=some v:=by
   intro x v hx1 hx2 hv
   rw[World.cell?_setCell_other _ _ _ _ (by simp <;> omega),World.cell?_setCell_other _ _ _ _ (by simp <;> omega)]
   exact hv
  exact⟨s',p',n',c',far _ _ (by omega) (by omega) e0,far _ _ (by omega) (by omega) e1,e4.i32 h32⟩
def ZX (z:Int) (w:World) (xs:List Value) (i:Nat):Prop:=∃ s p n c,xs[i]?=some (.bool s)∧xs[i+1]?=some (.slice p n c)∧Zs w s p n c z
def OwnZ (f:Nat→Int) (w:World) (B:Nat) (v:Value) (n:Nat):Prop:=∃ xs,OwnK NotInt w B 33 2 v n xs∧∀ j,j<n→ZX (f j) w xs (j*2)
theorem OwnZ.nil (f:Nat→Int) (w:World) (B:Nat):OwnZ f w B (.slice none 0 0) 0:=⟨[],OwnK.nil _ _ _ _ _,fun _ hj=>absurd hj (Nat.not_lt_zero _)⟩
theorem ZX.i32 {z:Int} {w w':World} (h:I32 w w') {xs:List Value} {i:Nat} (hx:ZX z w xs i):ZX z w' xs i:=by
 obtain⟨s,p,n,c,h0,h1,h4⟩:=hx
 exact⟨s,p,n,c,h0,h1,h4.i32 h⟩
theorem OwnZ.keep {f:Nat→Int} {w w':World} {B n:Nat} {v:Value} (h:OwnZ f w B v n) (hb:Below w.heap.size w w'):OwnZ f w' B v n:=by
 obtain⟨xs,h1,h2⟩:=h
 exact⟨xs,h1.keep hb,fun j hj=>(h2 j hj).i32 (I32.below hb)⟩
theorem ZX.app {z:Int} {w:World} {xs ys:List Value} {i:Nat} (h:ZX z w xs i):ZX z w (xs++ys) i:=by
 obtain⟨s,p,n,c,h0,h1,h4⟩:=h
 have hk:∀ (j:Nat) (v:Value),xs[j]?=some v→(xs++ys)[j]?=some v:=by
  intro j v e
  rw[List.getElem?_append_left]
  ·exact e
  ·rcases Nat.lt_or_ge j xs.length with hlt|hge
   ·exact hlt
   ·rw[List.getElem?_eq_none hge]at e;cases e
 exact⟨s,p,n,c,hk _ _ h0,hk _ _ h1,h4⟩
theorem OwnZ.push {f:Nat→Int} {W w':World} {B n:Nat} {v v':Value} {xs:List Value} (h1:OwnK NotInt W B 33 2 v n xs) (h2:∀ j,j<n→ZX (f j) W xs (j*2))
  {s:Bool} {p:Option Addr} {k c:Nat} (hq:Zs W s p k c (f n)) (h3:OwnK NotInt w' B 33 2 v' (n+1) (xs++[.bool s,.slice p k c])) (hg:W.grownBy w' v.ownBlock):OwnZ f w' B v' (n+1):=by
 have h32:=I32.grown (K:=NotInt) (fun x=>not_int32 x) h1.2 hg
 refine⟨_,h3,fun j hj=>?_⟩
 by_cases hjn:j<n
 ·exact((h2 j hjn).i32 h32).app
 ·obtain rfl:j=n:=by omega
  have hl:xs.length=j*2:=h1.1.1
  refine⟨s,p,k,c,?_,?_,hq.i32 h32⟩
  ·rw[List.getElem?_append_right (by omega),hl,show j*2 - j*2=0 by omega];rfl
  ·rw[List.getElem?_append_right (by omega),hl,show j*2+1 - j*2=1 by omega];rfl
theorem OwnZ.row {f:Nat→Int} {w:World} {B n:Nat} {v:Value} (h:OwnZ f w B v n):(n=0∧v=.slice none 0 0)∨∃ g cap,v=.slice (some ⟨g,0,none⟩) n cap∧B≤g∧ZRow f w g n n:=by
 obtain⟨xs,h1,h2⟩:=h
 rcases own_shape h1.1 with⟨rfl,rfl,_⟩ |⟨g,cap,rfl,hB,hg,hc⟩
 ·exact .inl ⟨rfl,rfl⟩
 ·right
  have hl:xs.length=n*2:=h1.1.1
  have hs:=h1.2 g rfl
  refine⟨g,cap,rfl,hB,⟨hs,?_,?_,?_⟩⟩
  ·intro i hi
   rcases own_block h1.1 with h3 |⟨g',cs,h3,_,h4⟩
   ·simp[Value.ownBlock]at h3
   ·simp[Value.ownBlock]at h3
    subst h3
    exact h4.free_ i
  ·intro i hi
   rw[own_read h1.1 (List.getElem?_eq_getElem (by omega:i<xs.length))];rfl
  ·intro j hj
   obtain⟨s,p,n',c,e0,e1,e4⟩:=h2 j hj
   exact⟨s,p,n',c,own_read h1.1 e0,own_read h1.1 e1,e4⟩
theorem aIntInfo:(Tryz.prog.info? 33).map (fun i=>(i.zero,i.size,i.bytes))=some (some (.agg #[.bool false,.slice none 0 0]),2,32):=by kernel_rfl
theorem niz2:∀ u∈(Value.agg #[.bool false,.slice none 0 0]).cells.toList,NotInt u:=by
 intro u hu
 simp[Value.cells]at hu
 rcases hu with rfl|rfl <;> first|exact NotInt.bool _|exact NotInt.slice _ _ _
end Go.Proofs.YthikonjlgljikaaGreatDoor
namespace Go.Proofs.YthikonjlgljikaaGreatDoor
def lin (a b:Int) (p:Nat→Int):Nat→Int:=fun j=>(if 0<j then a*p (j - 1)else 0)+b*p j
def mv (i:Nat) (a b c d:Int):Nat→Nat→Int
 | 0=>fun j=>if j=0 then 1 else 0
 | k+1=>if k<i then lin a b (mv i a b c d k)else lin c d (mv i a b c d k)
theorem mv_zero (i:Nat) (a b c d:Int) (k j:Nat) (h:k<j):mv i a b c d k j=0:=by
 induction k generalizing j with
 | zero=>show(if j=0 then(1:Int)else 0)=0;rw[if_neg (by omega)]
 | succ k ih=>
  rw[mv]
  split <;>(unfold lin;rw[ih j (by omega),ih (j - 1) (by omega)];simp)
theorem nd_one':nd 1=1:=by
 have h1:=nd_pos.2 (show(1:Nat)≠0 by decide)
 have h2:=(nd_le (v:=1) (k:=1)).2 (by decide)
 omega
theorem lin_size (a b:Int) (p:Nat→Int) (K:Nat) (ha:nd a.natAbs≤2) (hb:nd b.natAbs≤2) (hp:∀ j,nd (p j).natAbs≤K) (j:Nat):nd (lin a b p j).natAbs≤K+3:=by
 unfold lin
 refine Nat.le_trans (nd_add_int _ _ (K:=K+2) ?_ ?_) (by omega)
 ·split
  ·rw[Int.natAbs_mul];have:=nd_mul a.natAbs (p (j - 1)).natAbs;have:=hp (j - 1);omega
  ·rw[show(0:Int).natAbs=0 from rfl,nd_zero];omega
 ·rw[Int.natAbs_mul];have:=nd_mul b.natAbs (p j).natAbs;have:=hp j;omega
theorem mv_size (i:Nat) (a b c d:Int) (ha:nd a.natAbs≤2) (hb:nd b.natAbs≤2) (hc:nd c.natAbs≤2) (hd:nd d.natAbs≤2) (k j:Nat):nd (mv i a b c d k j).natAbs≤1+3*k:=by
 induction k generalizing j with
 | zero=>
  show nd (if j=0 then(1:Int)else 0).natAbs≤1
  split
  ·exact Nat.le_of_eq nd_one'
  ·rw[show(0:Int).natAbs=0 from rfl,nd_zero];omega
 | succ k ih=>
  rw[mv]
  split
  ·exact lin_size a b _ _ ha hb ih j
  ·exact lin_size c d _ _ hc hd ih j
def sumQ (f:Nat→Rat):Nat→Rat
 | 0=>0
 | n+1=>sumQ f n+f n
def subst (q:Nat→Rat) (w:Nat) (a b c d:Int) (n j:Nat):Rat:=sumQ (fun i=>q i*(mv i a b c d w j:Int)) n
theorem hq_int (z:Int):hq (z:Rat)=max (nd z.natAbs) 1:=by
 unfold hq;rw[Rat.num_intCast,Rat.den_intCast,nd_one']
end Go.Proofs.YthikonjlgljikaaGreatDoor
namespace Go.Proofs.YthikonjlgljikaaGreatDoor
open Go.RowKit
/-! The contracts of the fractions' functions,for normalized arguments -/
theorem c_qMulQ (s:Bool) (p:Option Addr) (n c:Nat) (t:Bool) (q:Option Addr) (m d:Nat) (x:Rat) (s':Bool) (p':Option Addr) (n' c':Nat) (t':Bool) (q':Option Addr) (m' d':Nat) (y:Rat) (w:World) (h:Qs w s p n c t q m d x) (h':Qs w s' p' n' c' t' q' m' d' y) (hx:hq x≤1000000000) (hy:hq y≤1000000000):
  Calls Tryz.prog 38 #[.agg #[.bool s,.slice p n c,.bool t,.slice q m d],.agg #[.bool s',.slice p' n' c',.bool t',.slice q' m' d']] w fun e w'=>RetQ w' e (x*y)∧Below w.heap.size w w':=by
 have h1:=c_qMul s p n c x.num t q m d x.den s' p' n' c' y.num t' q' m' d' y.den w h.1.raw h.2.raw h'.1.raw h'.2.raw (by have:=h.sizes;omega) (by have:=h.sizes;omega) (by have:=h'.sizes;omega) (by have:=h'.sizes;omega)
 rw[rat_self,rat_self]at h1
 exact h1
theorem c_qAddQ (s:Bool) (p:Option Addr) (n c:Nat) (t:Bool) (q:Option Addr) (m d:Nat) (x:Rat) (s':Bool) (p':Option Addr) (n' c':Nat) (t':Bool) (q':Option Addr) (m' d':Nat) (y:Rat) (w:World) (h:Qs w s p n c t q m d x) (h':Qs w s' p' n' c' t' q' m' d' y) (hx:hq x≤1000000000) (hy:hq y≤1000000000):
  Calls Tryz.prog 76 #[.agg #[.bool s,.slice p n c,.bool t,.slice q m d],.agg #[.bool s',.slice p' n' c',.bool t',.slice q' m' d']] w fun e w'=>RetQ w' e (x+y)∧Below w.heap.size w w':=by
 have h1:=c_qAdd s p n c x.num t q m d x.den s' p' n' c' y.num t' q' m' d' y.den w h.1.raw h.2.raw h'.1.raw h'.2.raw (by have:=h.sizes;omega) (by have:=h.sizes;omega) (by have:=h'.sizes;omega) (by have:=h'.sizes;omega) (den_ne x) (den_ne y)
 rw[rat_self,rat_self]at h1
 exact h1
def QAt (L:Nat→Rat) (k:Nat) (r:Rat) (w:World) (g N:Nat):Prop:=QRow (fun j=>IsQ (if j=k then r else L j)) w g N (k+1)
theorem QAt.keep {L:Nat→Rat} {k:Nat} {r:Rat} {w w':World} {g N:Nat} (h:QAt L k r w g N) (hb:Below w.heap.size w w'):QAt L k r w' g N:=QRow.keep (fun _=>IsQ.solid _) h hb
theorem QAt.set {L:Nat→Rat} {k:Nat} {r:Rat} {w:World} {g N:Nat} (h:QRow (fun j=>IsQ (L j)) w g N k) (hk:k<N) {s:Bool} {p:Option Addr} {n c:Nat} {t:Bool} {q:Option Addr} {m d:Nat} (hq:Qs w s p n c t q m d r):
  QAt L k r ((((w.setCell ⟨g,k*4,none⟩ (.bool s)).setCell ⟨g,k*4+1,none⟩ (.slice p n c)).setCell ⟨g,k*4+2,none⟩ (.bool t)).setCell ⟨g,k*4+3,none⟩ (.slice q m d)) g N:=
 QRow.set (fun _=>IsQ.solid _) h k hk _ (IsQ.solid _) (fun i hi hne=>⟨by omega,by rw[if_neg hne]⟩) (show IsQ (if k=k then r else L k) w s p n c t q m d by rw[if_pos rfl];exact hq)
theorem QAt.upd {L:Nat→Rat} {k:Nat} {r r':Rat} {w:World} {g N:Nat} (h:QAt L k r' w g N) (hk:k<N) {s:Bool} {p:Option Addr} {n c:Nat} {t:Bool} {q:Option Addr} {m d:Nat} (hq:Qs w s p n c t q m d r):
  QAt L k r ((((w.setCell ⟨g,k*4,none⟩ (.bool s)).setCell ⟨g,k*4+1,none⟩ (.slice p n c)).setCell ⟨g,k*4+2,none⟩ (.bool t)).setCell ⟨g,k*4+3,none⟩ (.slice q m d)) g N:=
 QRow.set (fun _=>IsQ.solid _) h k hk _ (IsQ.solid _) (fun i hi hne=>⟨hi,by rw[if_neg hne,if_neg hne]⟩) (show IsQ (if k=k then r else L k) w s p n c t q m d by rw[if_pos rfl];exact hq)
theorem QAt.done {L:Nat→Rat} {k:Nat} {r:Rat} {w:World} {g N:Nat} (h:QAt L k r w g N) (e:r=L k):QRow (fun j=>IsQ (L j)) w g N (k+1):=
 QRow.congr h (fun j _=>by
  by_cases hj:j=k
  ·rw[if_pos hj,hj,e]
  ·rw[if_neg hj])
theorem QAt.elem {L:Nat→Rat} {k:Nat} {r:Rat} {w:World} {g N:Nat} (h:QAt L k r w g N):QE (IsQ r) w g (k*4):=by
 have h1:=QRow.val h k (Nat.lt_succ_self k)
 simpa using h1
theorem cellOf_eq {w:World} {a:Addr} {v:Value} (h:w.cell? a=some v):cellOf w a=v:=by unfold cellOf;rw[h];rfl
def Cells4 (w:World) (g i:Nat) (s:Bool) (p:Option Addr) (n c:Nat) (t:Bool) (q:Option Addr) (m d:Nat):Prop:=
 w.cell? ⟨g,i,none⟩=some (.bool s)∧w.cell? ⟨g,i+1,none⟩=some (.slice p n c)∧w.cell? ⟨g,i+2,none⟩=some (.bool t)∧w.cell? ⟨g,i+3,none⟩=some (.slice q m d)
theorem Cells4.keep {w w':World} {g i:Nat} {s:Bool} {p:Option Addr} {n c:Nat} {t:Bool} {q:Option Addr} {m d:Nat} (h:Cells4 w g i s p n c t q m d) (hb:Below w.heap.size w w'):Cells4 w' g i s p n c t q m d:=by
 have hk:∀ j v,w.cell? ⟨g,j,none⟩=some v→w'.cell? ⟨g,j,none⟩=some v:=fun j v e=>(hb.cell (p:=⟨g,j,none⟩) (World.block_lt_of_cell? w ⟨g,j,none⟩ e)).trans e
 exact⟨hk _ _ h.1,hk _ _ h.2.1,hk _ _ h.2.2.1,hk _ _ h.2.2.2⟩
theorem below_put4g {g:Nat} {w w':World} (h:Below g w w') {i j k l:Nat} {v0 v1 v2 v3:Value}:Below g w ((((w'.setCell ⟨g,i,none⟩ v0).setCell ⟨g,j,none⟩ v1).setCell ⟨g,k,none⟩ v2).setCell ⟨g,l,none⟩ v3):=
 (((h.setCell (p:=⟨g,i,none⟩) (Nat.le_refl _) v0).setCell (p:=⟨g,j,none⟩) (Nat.le_refl _) v1).setCell (p:=⟨g,k,none⟩) (Nat.le_refl _) v2).setCell (p:=⟨g,l,none⟩) (Nat.le_refl _) v3
theorem madeQ {n i:Nat} {v:Value} (h:(madeCells #[.bool false,.slice none 0 0,.bool false,.slice none 0 0] n)[i]?=some v):NotInt v:=by
 unfold madeCells at h
 simp only[Array.getElem?_map,Array.getElem?_range]at h
 split at h
 ·simp only[Option.map_some]at h
  injection h with h
  rw[← h]
  have h2:=Nat.mod_lt i (show 0<4 by decide)
  have h3:i % 4=0∨i % 4=1∨i % 4=2∨i % 4=3:=by omega
  show NotInt ((#[.bool false,.slice none 0 0,.bool false,.slice none 0 0]:Array Value)[i % 4]!)
  rcases h3 with h3|h3|h3|h3 <;> rw[h3] <;> first|exact NotInt.bool _|exact NotInt.slice _ _ _
 ·cases h
theorem QRow.made (F:Nat→FP) (w:World) (n:Nat):QRow F (w.alloc (.cells (madeCells #[.bool false,.slice none 0 0,.bool false,.slice none 0 0] (n*4)) 35)) w.heap.size n 0:=by
 have hb:=Blk.new w 35 (madeCells #[.bool false,.slice none 0 0,.bool false,.slice none 0 0] (n*4))
 refine⟨Sts.of hb ?_,fun i _=>hb.free_ i,fun i hi=>?_,fun j hj=>absurd hj (Nat.not_lt_zero _)⟩
 ·intro v hv
  obtain⟨i,hi⟩:=Array.getElem?_of_mem hv
  exact madeQ hi
 ·rw[hb.cell_ i,Array.getElem?_eq_getElem (by rw[size_madeCells];exact hi)];rfl
theorem makeQ (n:Nat) (h:n≤1000000) (w:World):
  (Instr.makeSlice 24 (.int .i64 (n:Int)) (.int .i64 (n:Int))).run Tryz.prog w=.ok (.slice (some ⟨w.heap.size,0,none⟩) n n) (w.alloc (.cells (madeCells #[.bool false,.slice none 0 0,.bool false,.slice none 0 0] (n*4)) 35)):=by
 obtain⟨i,hi,hz0,hz1,hz2⟩:=info_parts ratInfo
 have hr:=run_make (P:=Tryz.prog) w 24 35 i _ Tryz.underlying24 hi hz0 .i64 .i64 n n (by omega) (Int.le_refl _) (by rw[hz2];omega) (by omega)
 rw[Int.toNat_natCast,hz1]at hr
 exact hr
end Go.Proofs.YthikonjlgljikaaGreatDoor
