/- The law's Poly (polynomials of small fractions), sum (of three rows), and Quick. -/
import Derived.Test.YtijgdhijdfgpfaaGreatDoorY44
import Derived.Test.YtijgdhijdfgpfaaGreatDoorY39
import Derived.Test.YtijgdhijdfgpfaaGreatDoorY28
import Derived.Test.YtijgdhijdfgpfaaGreatDoorY23
import Derived.Test.YtijgdhijdfgpfaaGreatDoorY26
import Derived.Test.YtijgdhijdfgpfaaGreatDoorY08
import Derived.Test.YtijgdhijdfgpfaaGreatDoorY13
import Derived.Test.YtijgdhijdfgpfaaGreatDoorY33
import Derived.Test.YtijgdhijdfgpfaaGreatDoorY37
import Derived.Test.YtijgdhijdfgpfaaGreatDoorY42
import Derived.Test.YtijgdhijdfgpfaaGreatDoorY16
import Derived.Test.YtijgdhijdfgpfaaGreatDoorY18
set_option linter.unusedSimpArgs false
set_option maxRecDepth 100000
set_option maxHeartbeats 8000000
namespace Go.Proofs.YtijgdhijdfgpfaaGreatDoor
open Go.RowKit Eli
def plU (x:Nat→Int) (ln k:Nat):Rat:=Rat.divInt (if k<ln then x k else 0) ((1+k % 2:Nat):Int)
theorem plU_size {x:Nat→Int} {ln k:Nat} (hx:∀ k,k<ln→-128≤x k∧x k≤127):hq (plU x ln k)≤1:=by
 refine hq_over (by omega) (nd_le.2 ?_) (nd_le.2 ?_)
 ·split
  ·rename_i h
   have:=hx k h
   omega
  ·decide
 ·omega
theorem c_Poly (p:Option Addr) (ln c:Nat) (x:Nat→Int) (n:Nat) (w:World) (hp:∀ k,k<ln→∃ g o,p=some ⟨g,o,none⟩∧g<w.heap.size∧w.cell? ⟨g,o+k,none⟩=some (.int .i8 (x k))) (hx:∀ k,k<ln→-128≤x k∧x k≤127) (hn:n≤1000):
  Calls Tryz.prog 17 #[.slice p ln c,.int .i64 n] w fun e w'=>(∃ v',e=.returned v'∧OwnQ (fun j=>IsQ (plU x ln j)) w' w.heap.size v' n)∧Below w.heap.size w w':=by
 have HN:=Kh (OwnQ.nil (fun j=>IsQ (plU x ln j)) w w.heap.size)
 have HP:=Kh hp
 have HX:=Kh hx
 clear hp hx
 go_enter Tryz.func17,Tryz.ntmps17
 go_wp2
 go_loopw [5,6] (fun v i wr=>∃ k:Nat,k≤n∧i=.int .i64 k∧OwnQ (fun j=>IsQ (plU x ln j)) wr w.heap.size v k∧Below w.heap.size w wr) (fun _ i _=>n - (intOf i).toNat)
 case atStart=>exact⟨0,Nat.zero_le _,rfl,HN.out,Below.refl _ _⟩
 case round=>
  obtain⟨k,hk,rfl,ho,hb⟩:=hrel
  have HO:=Kh ho
  have HB:=Kh hb
  clear ho HN
  by_cases hlt:k<n
  ·obtain⟨r,hr⟩:∃ r,k % 2=r:=⟨_,rfl⟩
   have hr2:r<2:=by omega
   obtain⟨d,hd⟩:∃ d,1+r=d:=⟨_,rfl⟩
   have e1:Int.tmod (k:Int) 2=(r:Nat):=by rw[Int.tmod_eq_emod_of_nonneg (by omega)];omega
   have v0:IntKind.i64.wrap (r:Int)=(r:Nat):=IntWalk.i64_in _ (by omega)
   have e2:(1:Int)+(r:Int)=(d:Nat):=by omega
   have v1:IntKind.i64.wrap (d:Int)=(d:Nat):=IntWalk.i64_in _ (by omega)
   have HD:=Kh (show 1+k % 2=d by omega)
   have hd1:0<d∧d≤3:=by omega
   have HD1:=Kh hd1
   have hki:(k:Int)<(n:Int):=by omega
   by_cases hkl:k<ln
   ·obtain⟨g,o,rfl,hg,hc⟩:=HP.out k hkl
    obtain⟨z,hz⟩:∃ z,x k=z:=⟨_,rfl⟩
    have hzb:=HX.out k hkl
    rw[hz]at hc hzb
    have HZ:=Kh (show plU x ln k=Rat.divInt z d by rw[plU,if_pos hkl,hz,HD.out])
    have a0:wr.cell? ⟨g,o+k,none⟩=some (.int .i8 z):=(hb.cell (p:=⟨g,o+k,none⟩) hg).trans hc
    have v2:IntKind.i64.wrap z=z:=IntWalk.i64_in _ (by omega)
    have hkli:(k:Int)<(ln:Int):=by omega
    have HC:=Kh (c_Frac z d wr (by omega) (by omega) (by omega) (by omega))
    clear hb hz hc hd hr hd1 hzb
    go_wp2_with fail
    refine HC.out.mono ?_
    rintro e w2 ⟨⟨s,p1,i1,c1,t,q1,m,d1,rfl,hq⟩,hb2⟩
    obtain⟨xs,hK,hX⟩:=HO.out.keep (fun _=>IsQ.solid _) hb2
    have HK:=Kh hK
    have HX2:=Kh hX
    have HQ:=Kh (show IsQ (plU x ln k) w2 s p1 i1 c1 t q1 m d1 by rw[HZ.out];exact hq)
    have HB1:=bt HB hb2
    clear hK hX hq hb2 HO HB a0 HC
    go_wp2_with (at_builtin;refine wpl_app2 NotInt rfl (.tmp 22) (.tmp 28) _ 67 rfl Tryz.underlying22 ratInfo rfl (by decide) w.heap.size k u5 xs [.bool s,.slice p1 i1 c1,.bool t,.slice q1 m d1] rfl HK.out rfl rfl (one4 _ _ _ _ _ _ _ _) (by omega) (by omega) HB1.out.size (ni4 _ _ _ _ _ _ _ _) niz ?_;intro v' w' hown' hgr hat;have HO2:=Kh (OwnQ.push (W:=_) (fun _=>IsQ.solid _) HK.out HX2.out HQ.out hown' hgr);have HB2:=Kh (own_below HB1.out HK.out.1 hgr (Nat.le_refl _) HB1.out.size);clear hown' hgr hat)
    go_roundw
    case rel=>exact⟨k+1,by omega,by go_num,HO2.out,HB2.out⟩
    case measure=>simp[intOf];omega
   ·have HZ:=Kh (show plU x ln k=Rat.divInt 0 d by rw[plU,if_neg hkl,HD.out])
    have hkli:¬ ((k:Int)<(ln:Int)):=by omega
    have HC:=Kh (c_Frac 0 d wr (by omega) (by omega) (by omega) (by omega))
    clear hb hd hr hd1
    go_wp2_with fail
    refine HC.out.mono ?_
    rintro e w2 ⟨⟨s,p1,i1,c1,t,q1,m,d1,rfl,hq⟩,hb2⟩
    obtain⟨xs,hK,hX⟩:=HO.out.keep (fun _=>IsQ.solid _) hb2
    have HK:=Kh hK
    have HX2:=Kh hX
    have HQ:=Kh (show IsQ (plU x ln k) w2 s p1 i1 c1 t q1 m d1 by rw[HZ.out];exact hq)
    have HB1:=bt HB hb2
    clear hK hX hq hb2 HO HB HC
    go_wp2_with (at_builtin;refine wpl_app2 NotInt rfl (.tmp 22) (.tmp 28) _ 67 rfl Tryz.underlying22 ratInfo rfl (by decide) w.heap.size k u5 xs [.bool s,.slice p1 i1 c1,.bool t,.slice q1 m d1] rfl HK.out rfl rfl (one4 _ _ _ _ _ _ _ _) (by omega) (by omega) HB1.out.size (ni4 _ _ _ _ _ _ _ _) niz ?_;intro v' w' hown' hgr hat;have HO2:=Kh (OwnQ.push (W:=_) (fun _=>IsQ.solid _) HK.out HX2.out HQ.out hown' hgr);have HB2:=Kh (own_below HB1.out HK.out.1 hgr (Nat.le_refl _) HB1.out.size);clear hown' hgr hat)
    go_roundw
    case rel=>exact⟨k+1,by omega,by go_num,HO2.out,HB2.out⟩
    case measure=>simp[intOf];omega
  ·obtain rfl:k=n:=by omega
   clear hb
   go_wp2
   go_ret
   exact⟨⟨_,rfl,HO.out⟩,HB.out⟩
end Go.Proofs.YtijgdhijdfgpfaaGreatDoor
namespace Go.Proofs.YtijgdhijdfgpfaaGreatDoor
open Go.RowKit
theorem QRow.grown {F:Nat→FP} (hF:∀ j,Solid (F j)) {w w':World} {g N k:Nat} {row:Option Nat} (h:QRow F w g N k) (h32:I32 w w') (hg:w.grownBy w' row) (hne:some g≠row):QRow F w' g N k:=by
 have hc:∀ j v,w.cell? ⟨g,j,none⟩=some v→w'.cell? ⟨g,j,none⟩=some v:=fun j v e=>hg.cell e hne
 have hbk:w'.heap[g]?=w.heap[g]?:=hg.block g h.sts.1 hne
 refine⟨⟨Nat.lt_of_lt_of_le h.sts.1 hg.size,fun i v hv=>h.sts.2 i v ((World.cell?_of_block (a:=⟨g,i,none⟩) hbk).symm.trans hv)⟩,fun i hi=>(World.frozen?_of_block (a:=⟨g,i,none⟩) hbk).trans (h.free i hi),fun i hi=>?_,fun j hj=>?_⟩
 ·rw[World.cell?_of_block (a:=⟨g,i,none⟩) hbk];exact h.has i hi
 ·obtain⟨s,p,n,c,t,q,m,d,h0,h1,h2,h3,h4⟩:=h.val j hj
  exact⟨s,p,n,c,t,q,m,d,hc _ _ h0,hc _ _ h1,hc _ _ h2,hc _ _ h3,hF j _ _ _ _ _ _ _ _ _ _ h32 h4⟩
def PX (w:World) (xs:List Value) (i n:Nat) (f:Nat→Rat) (x y:Int×Int):Prop:=
 ∃ g cap,xs[i*5]?=some (.slice (some ⟨g,0,none⟩) n cap)∧xs[i*5+1]?=some (.int .i64 x.1)∧xs[i*5+2]?=some (.int .i64 x.2)∧xs[i*5+3]?=some (.int .i64 y.1)∧xs[i*5+4]?=some (.int .i64 y.2)∧QRow (fun j=>IsQ (f j)) w g n n
def OwnP (F:Nat→Nat→Rat) (X Y:Nat→Int×Int) (w:World) (B:Nat) (v:Value) (k n:Nat):Prop:=
 (v.ownBlock=none∨0<k)∧∃ xs,OwnK NotU32 w B 26 5 v k xs∧∀ i,i<k→PX w xs i n (F i) (X i) (Y i)
theorem OwnP.nil (F:Nat→Nat→Rat) (X Y:Nat→Int×Int) (w:World) (B n:Nat):OwnP F X Y w B (.slice none 0 0) 0 n:=⟨.inl rfl,[],OwnK.nil _ _ _ _ _,fun _ hi=>absurd hi (Nat.not_lt_zero _)⟩
theorem PX.keep {w w':World} {xs:List Value} {i n:Nat} {f:Nat→Rat} {x y:Int×Int} (h:PX w xs i n f x y) (hb:Below w.heap.size w w'):PX w' xs i n f x y:=by
 obtain⟨g,cap,h0,h1,h2,h3,h4,h5⟩:=h
 exact⟨g,cap,h0,h1,h2,h3,h4,h5.keep (fun _=>IsQ.solid _) hb⟩
theorem OwnP.keep {F:Nat→Nat→Rat} {X Y:Nat→Int×Int} {w w':World} {B k n:Nat} {v:Value} (h:OwnP F X Y w B v k n) (hb:Below w.heap.size w w'):OwnP F X Y w' B v k n:=by
 obtain⟨hv,xs,h1,h2⟩:=h
 exact⟨hv,xs,h1.keep hb,fun i hi=>(h2 i hi).keep hb⟩
theorem OwnP.push {F:Nat→Nat→Rat} {X Y:Nat→Int×Int} {W w':World} {B k n:Nat} {v v':Value} {xs:List Value} (hv:v.ownBlock=none∨0<k) (h1:OwnK NotU32 W B 26 5 v k xs) (h2:∀ i,i<k→PX W xs i n (F i) (X i) (Y i))
  {g cap:Nat} {x y:Int×Int} (hq:QRow (fun j=>IsQ (F k j)) W g n n) (hx:X k=x) (hy:Y k=y) (h3:OwnK NotU32 w' B 26 5 v' (k+1) (xs++[.slice (some ⟨g,0,none⟩) n cap,.int .i64 x.1,.int .i64 x.2,.int .i64 y.1,.int .i64 y.2])) (hg:W.grownBy w' v.ownBlock):OwnP F X Y w' B v' (k+1) n:=by
 have h32:=I32.grown (K:=NotU32) (fun x=>not_u32 x) h1.2 hg
 have hl:xs.length=k*5:=h1.1.1
 have hne:∀ g',Sts W g'→some g'≠v.ownBlock:=by
  intro g' hs e
  rcases hv with hv|hv
  ·rw[hv]at e;cases e
  ·obtain⟨_,_,_,e1,_⟩:=h2 0 hv
   rcases own_shape h1.1 with⟨rfl,_⟩ |⟨g0,cap0,rfl,_⟩
   ·simp[Value.ownBlock]at e
   ·simp[Value.ownBlock]at e
    subst e
    exact hs.2 1 _ (own_read h1.1 (j:=1) (by simpa using e1)) _ _ rfl
 refine⟨.inr (Nat.succ_pos k),_,h3,fun i hi=>?_⟩
 by_cases hik:i<k
 ·obtain⟨g',cap',e0,e1,e2,e3,e4,e5⟩:=h2 i hik
  have hk:∀ (j:Nat) (u:Value),xs[j]?=some u→(xs++[.slice (some ⟨g,0,none⟩) n cap,.int .i64 x.1,.int .i64 x.2,.int .i64 y.1,.int .i64 y.2])[j]?=some u:=by
   intro j u e
   rw[List.getElem?_append_left]
   ·exact e
   ·rcases Nat.lt_or_ge j xs.length with hlt|hge
    ·exact hlt
    ·rw[List.getElem?_eq_none hge]at e;cases e
  exact⟨g',cap',hk _ _ e0,hk _ _ e1,hk _ _ e2,hk _ _ e3,hk _ _ e4,e5.grown (fun _=>IsQ.solid _) h32 hg (hne g' e5.sts)⟩
 ·obtain rfl:i=k:=by omega
  refine⟨g,cap,?_,?_,?_,?_,?_,hq.grown (fun _=>IsQ.solid _) h32 hg (hne g hq.sts)⟩
  ·rw[List.getElem?_append_right (by omega),hl,show i*5 - i*5=0 by omega];rfl
  ·rw[List.getElem?_append_right (by omega),hl,show i*5+1 - i*5=1 by omega,hx];rfl
  ·rw[List.getElem?_append_right (by omega),hl,show i*5+2 - i*5=2 by omega,hx];rfl
  ·rw[List.getElem?_append_right (by omega),hl,show i*5+3 - i*5=3 by omega,hy];rfl
  ·rw[List.getElem?_append_right (by omega),hl,show i*5+4 - i*5=4 by omega,hy];rfl
def PLs (F:Nat→Nat→Rat) (X Y:Nat→Int×Int) (w:World) (v:Value) (k n:Nat):Prop:=
 (k=0∧∃ a c,v=.slice a 0 c)∨∃ g0 c0,v=.slice (some ⟨g0,0,none⟩) k c0∧g0<w.heap.size∧∀ i,i<k→∃ g cap,w.cell? ⟨g0,i*5,none⟩=some (.slice (some ⟨g,0,none⟩) n cap)∧w.cell? ⟨g0,i*5+1,none⟩=some (.int .i64 (X i).1)∧w.cell? ⟨g0,i*5+2,none⟩=some (.int .i64 (X i).2)∧w.cell? ⟨g0,i*5+3,none⟩=some (.int .i64 (Y i).1)∧w.cell? ⟨g0,i*5+4,none⟩=some (.int .i64 (Y i).2)∧QRow (fun j=>IsQ (F i j)) w g n n
theorem PLs.keep {F:Nat→Nat→Rat} {X Y:Nat→Int×Int} {w w':World} {k n:Nat} {v:Value} (h:PLs F X Y w v k n) (hb:Below w.heap.size w w'):PLs F X Y w' v k n:=by
 rcases h with h |⟨g0,c0,e,hg,hc⟩
 ·exact .inl h
 ·refine .inr ⟨g0,c0,e,Nat.lt_of_lt_of_le hg hb.size,fun i hi=>?_⟩
  obtain⟨g,cap,e0,e1,e2,e3,e4,e5⟩:=hc i hi
  have hk:∀ j v,w.cell? ⟨g0,j,none⟩=some v→w'.cell? ⟨g0,j,none⟩=some v:=fun j v e=>(hb.cell (p:=⟨g0,j,none⟩) hg).trans e
  exact⟨g,cap,hk _ _ e0,hk _ _ e1,hk _ _ e2,hk _ _ e3,hk _ _ e4,e5.keep (fun _=>IsQ.solid _) hb⟩
def IsA (x y:Int):FP:=fun w s p n c t q m d=>Zr w s p n c x∧Zr w t q m d y
theorem IsA.solid (x y:Int):Solid (IsA x y):=fun _ _ _ _ _ _ _ _ _ _ h hq=>⟨hq.1.i32 h,hq.2.i32 h⟩
def Shorts (x y:Nat→Int) (w:World) (vp:Option Addr) (i:Nat):Prop:=∀ j,j<i→∃ g o,vp=some ⟨g,o,none⟩∧g<w.heap.size∧QE (IsR (x j) (y j)) w g (o+j*4)
theorem Shorts.ql {x y:Nat→Int} {w:World} {vp:Option Addr} {n c:Nat} (h:Shorts x y w vp n):QL (fun j=>IsR (x j) (y j)) w (.slice vp n c) n:=by
 rcases Nat.eq_zero_or_pos n with rfl|h0
 ·exact .inl ⟨rfl,_,_,rfl⟩
 ·obtain⟨g,o,rfl,hg,_⟩:=h 0 h0
  refine .inr ⟨g,o,c,rfl,hg,fun j hj=>?_⟩
  obtain⟨g',o',e,_,hq⟩:=h j hj
  injection e with e
  injection e with e1 e2
  subst e1;subst e2
  exact hq
end Go.Proofs.YtijgdhijdfgpfaaGreatDoor
namespace Go.Proofs.YtijgdhijdfgpfaaGreatDoor
open Go.RowKit Eli
theorem QRow.cellOf {F:Nat→FP} {w:World} {g N:Nat} (h:QRow F w g N N) {i:Nat} (hi:i<N*4):w.cell? ⟨g,i,none⟩=some (cellOf w ⟨g,i,none⟩):=by
 obtain⟨u,hu⟩:=Option.isSome_iff_exists.1 (h.has i hi)
 rw[hu,cellOf_eq hu]
theorem QRow.shape {F:Nat→FP} {w:World} {g N:Nat} (h:QRow F w g N N) {u:Value} (hu:u∈rowCells w g (N*4)):(∃ s,u=.bool s)∨∃ p n c,u=.slice p n c:=by
 obtain⟨i,hj⟩:=List.getElem?_of_mem hu
 have hi:=rowCells_lt hj
 rw[rowCells_get hi]at hj
 injection hj with hj
 subst hj
 obtain⟨s,p,n,c,t,q,m,d,e0,e1,e2,e3,_⟩:=h.val (i / 4) (by omega)
 rcases(by omega:i % 4=0∨i % 4=1∨i % 4=2∨i % 4=3)with h4|h4|h4|h4
 ·rw[show i / 4*4=i by omega]at e0
  exact .inl ⟨s,cellOf_eq e0⟩
 ·rw[show i / 4*4+1=i by omega]at e1
  exact .inr ⟨p,n,c,cellOf_eq e1⟩
 ·rw[show i / 4*4+2=i by omega]at e2
  exact .inl ⟨t,cellOf_eq e2⟩
 ·rw[show i / 4*4+3=i by omega]at e3
  exact .inr ⟨q,m,d,cellOf_eq e3⟩
theorem QRow.one {F:Nat→FP} {w:World} {g N:Nat} (h:QRow F w g N N):∀ u∈rowCells w g (N*4),u.oneCell'=true:=by
 intro u hu
 rcases h.shape hu with⟨s,rfl⟩ |⟨p,n,c,rfl⟩ <;> rfl
theorem QRow.cells {F:Nat→FP} {w:World} {g N:Nat} (h:QRow F w g N N):∀ (j:Nat) (u:Value),(rowCells w g (N*4))[j]?=some u→w.cell? ⟨g,j,none⟩=some u:=by
 intro j u hj
 have hl:=rowCells_lt hj
 rw[rowCells_get hl]at hj
 rw[h.cellOf hl,hj]
theorem OwnQ.more {F R:Nat→FP} (hF:∀ j,Solid (F j)) {W w':World} {B n m g:Nat} {v v':Value} {xs:List Value} (h1:OwnK NotInt W B 67 4 v n xs) (h2:∀ j,j<n→QX (F j) W xs (j*4))
  (hr:QRow R W g m m) (h3:OwnK NotInt w' B 67 4 v' (n+m) (xs++rowCells W g (m*4))) (hg:W.grownBy w' v.ownBlock) (e2:∀ j,j<m→F (n+j)=R j):OwnQ F w' B v' (n+m):=by
 have h32:=I32.grown (K:=NotInt) (fun x=>not_int32 x) h1.2 hg
 refine⟨_,h3,fun j hj=>?_⟩
 by_cases hjn:j<n
 ·exact((h2 j hjn).i32 (hF j) h32).app
 ·obtain⟨k,rfl⟩:∃ k,j=n+k:=⟨j - n,by omega⟩
  have hk:k<m:=by omega
  have hl:xs.length=n*4:=h1.1.1
  obtain⟨s,p,c,d,t,q,e,f,c0,c1,c2,c3,hz⟩:=hr.val k hk
  rw[← e2 k hk]at hz
  refine⟨s,p,c,d,t,q,e,f,?_,?_,?_,?_,hF _ _ _ _ _ _ _ _ _ _ _ h32 hz⟩
  ·rw[List.getElem?_append_right (by omega),hl,show(n+k)*4 - n*4=k*4 by omega,rowCells_get (by omega),cellOf_eq c0]
  ·rw[List.getElem?_append_right (by omega),hl,show(n+k)*4+1 - n*4=k*4+1 by omega,rowCells_get (by omega),cellOf_eq c1]
  ·rw[List.getElem?_append_right (by omega),hl,show(n+k)*4+2 - n*4=k*4+2 by omega,rowCells_get (by omega),cellOf_eq c2]
  ·rw[List.getElem?_append_right (by omega),hl,show(n+k)*4+3 - n*4=k*4+3 by omega,rowCells_get (by omega),cellOf_eq c3]
structure MatAt (F:Nat→FP) (w:World) (go B R C m:Nat):Prop where
 lt:go<B
 hB:B≤w.heap.size
 c0:w.cell? ⟨go,0,none⟩=some (.int .i64 (R:Int))
 c1:w.cell? ⟨go,1,none⟩=some (.int .i64 (C:Int))
 c2:∃ p c,w.cell? ⟨go,2,none⟩=some (.slice p m c)∧OwnQ F w B (.slice p m c) m
 fr:w.frozen? ⟨go,2,none⟩=false
 stk:Stk NotU32 w go
theorem MatAt.keep {F:Nat→FP} (hF:∀ j,Solid (F j)) {w w':World} {go B R C m:Nat} (h:MatAt F w go B R C m) (hb:Below w.heap.size w w'):MatAt F w' go B R C m:=by
 obtain⟨p,c,e2,h2⟩:=h.c2
 exact⟨h.lt,Nat.le_trans h.hB hb.size,cell_next hb h.c0,cell_next hb h.c1,⟨p,c,cell_next hb e2,h2.keep hF hb⟩,frozen_keep hb (by rw[e2];rfl) h.fr,h.stk.next hb⟩
theorem OwnQ.box {F:Nat→FP} (hF:∀ j,Solid (F j)) {w w':World} {B n G:Nat} {v:Value} (h:OwnQ F w B v n) (h32:I32 w w') (hg:w.grownBy w' (some G)) (hG:G<B):OwnQ F w' B v n:=by
 obtain⟨xs,h1,h2⟩:=h
 have hne:∀ g,v.ownBlock=some g→some g≠some G:=fun g e e2=>by
  have:=own_ge h1.1 e.symm
  injection e2 with e2;omega
 refine⟨xs,⟨h1.1.kept hg ?_,fun g e=>?_⟩,fun j hj=>(h2 j hj).i32 (hF j) h32⟩
 ·cases hv:v.ownBlock with
  | none=>exact .inl rfl
  | some g=>exact .inr (hne g hv)
 ·have hs:=h1.2 g e
  have hb:=hg.block g hs.1 (hne g e)
  exact⟨Nat.lt_of_lt_of_le hs.1 hg.size,fun i u hu=>hs.2 i u ((World.cell?_of_block (a:=⟨g,i,none⟩) hb).symm.trans hu)⟩
theorem MatAt.more {F:Nat→FP} (hF:∀ j,Solid (F j)) {W w':World} {go B R C m n:Nat} {xs:List Value} {p:Option Addr} {c:Nat} {p':Option Addr} {c':Nat} (h:MatAt F W go B R C m) (hv:W.cell? ⟨go,2,none⟩=some (.slice p m c)) (h1:W.ownsRow B 67 4 (.slice p m c) m xs) (hO:OwnQ F w' B (.slice p' n c') n) (hg:W.grownBy w' (Value.slice p m c).ownBlock):
  w'.cell? ⟨go,2,none⟩=some (.slice p m c)∧w'.frozen? ⟨go,2,none⟩=false∧MatAt F (w'.setCell ⟨go,2,none⟩ (.slice p' n c')) go B R C n:=by
 have hne:some go≠(Value.slice p m c).ownBlock:=fun e=>by
  have:=own_ge h1 e
  have:=h.lt
  omega
 have hgo:go<W.heap.size:=Nat.lt_of_lt_of_le h.lt h.hB
 have hblk:=hg.block go hgo (fun e=>hne e)
 have d2:w'.cell? ⟨go,2,none⟩=some (.slice p m c):=(World.cell?_of_block (a:=⟨go,2,none⟩) hblk).trans hv
 have df:w'.frozen? ⟨go,2,none⟩=false:=(World.frozen?_of_block (a:=⟨go,2,none⟩) hblk).trans h.fr
 have hst:Stk NotU32 w' go:=⟨Nat.lt_of_lt_of_le hgo hg.size,fun i u hu=>h.stk.2 i u ((World.cell?_of_block (a:=⟨go,i,none⟩) hblk).symm.trans hu)⟩
 refine⟨d2,df,h.lt,by simpa using Nat.le_trans h.hB hg.size,?_,?_,⟨p',c',World.cell?_setCell_same' _ _ _ (by rw[d2];rfl),hO.box hF (I32.putU hst 2 _) (but_put w' go 2 _) h.lt⟩,frozen_set df,stk_put hst _ _ (fun _ h=>by cases h)⟩
 ·rw[World.cell?_setCell_other _ _ _ _ (by simp)];exact(World.cell?_of_block (a:=⟨go,0,none⟩) hblk).trans h.c0
 ·rw[World.cell?_setCell_other _ _ _ _ (by simp)];exact(World.cell?_of_block (a:=⟨go,1,none⟩) hblk).trans h.c1
theorem RetP.ok {w w':World} {e:Ending} {n:Nat} {f:Nat→Rat} {X Y:Int×Int} {er:Int} (h:RetP w w' e n f X Y er):
  ∃ pT cT,e=.returned (.tuple #[.agg #[.slice pT (if er=0 then n else 0) cT,.int .i64 ((if er=0 then X else(0,0)).1),.int .i64 ((if er=0 then X else(0,0)).2),.int .i64 ((if er=0 then Y else(0,0)).1),.int .i64 ((if er=0 then Y else(0,0)).2)],.int .i64 er])∧QL (fun j=>IsQ (f j)) w' (.slice pT (if er=0 then n else 0) cT) (if er=0 then n else 0)∧∀ a,pT=some a→w.heap.size≤a.block:=by
 rcases h with⟨h,he⟩ |⟨h,g,cap,he,hg,hr⟩
 ·simp only[if_neg h]
  exact⟨none,0,he,.inl ⟨rfl,_,_,rfl⟩,fun a ha=>by cases ha⟩
 ·subst h
  simp only[if_true]
  exact⟨_,cap,he,hr.ql cap,fun a ha=>by injection ha with ha;subst ha;exact hg⟩
theorem IsQ.isB {K:Nat} {r:Rat} {w:World} {s:Bool} {p:Option Addr} {n c:Nat} {t:Bool} {q:Option Addr} {m d:Nat} (h:IsQ r w s p n c t q m d) (hr:hq r≤K):IsB K r.num r.den w s p n c t q m d:=
 ⟨h.1.raw,h.2.raw,by have:=Qs.sizes h;omega,by have:=Qs.sizes h;omega⟩
theorem QL.isB {K:Nat} {f:Nat→Rat} {w:World} {v:Value} {n:Nat} (h:QL (fun j=>IsQ (f j)) w v n) (hf:∀ j,j<n→hq (f j)≤K):QL (fun j=>IsB K (f j).num (f j).den) w v n:=by
 rcases h with h |⟨g,o,c,h1,h2,h3⟩
 ·exact .inl h
 ·exact .inr ⟨g,o,c,h1,h2,fun j hj=>by
   obtain⟨s,p,k,c',t,q,m,d,e0,e1,e2,e3,hx⟩:=h3 j hj
   exact⟨s,p,k,c',t,q,m,d,e0,e1,e2,e3,IsQ.isB hx (hf j hj)⟩⟩
structure ModR (w:World) (M n wt:Nat) (D:Int) (F:List Nat) (C:Nat) (X:Nat→Nat→Rat):Prop where
 check:Pl.check n ((wt:Int)+2) D=0
 cnt:cntF n wt=C
 len:F.length≤72
 mod:ModAt w M w.heap.size n ((wt:Int)+2) D F C X
 size:∀ j f,j<C→f∈F→hq (X j f)≤10000
 rel:∀ f,f∈F→RelZ n wt D (fun j=>X j f)
def NewR (N k D:Int) (w:World) (e:Ending):Prop:=
 (∃ er,er≠0∧e=.returned (.tuple #[.pointer none,.int .i64 er])) ∨
 ∃ (n wt M:Nat) (F:List Nat) (C:Nat) (X:Nat→Nat→Rat),N=n∧(wt:Int)+2=k∧e=.returned (.tuple #[.pointer (some ⟨M,0,none⟩),.int .i64 0])∧ModR w M n wt D F C X
theorem new_all (N k D:Int) (w:World) (hT:Tab w):∃ lb:Bool,(∀ W,Calls Tryz.prog 14 #[.agg #[.int .i64 N,.int .i64 k,.int .i64 D]] W fun e w'=>e=.returned (.bool lb)∧Below W.heap.size W w') ∧
  (lb=false→∀ W,Below w.heap.size w W→Calls Tryz.prog 16 #[.agg #[.int .i64 N,.int .i64 k,.int .i64 D]] W fun e w'=>NewR N k D w' e∧Below W.heap.size W w'):=by
 by_cases hck:Pl.check N k D=0
 ·obtain⟨h1,h2,h3,h4,_,_⟩:=check_zero hck
  obtain⟨n,rfl⟩:∃ n:Nat,N=n:=⟨N.toNat,by omega⟩
  obtain⟨wt,rfl⟩:∃ wt:Nat,k=(wt:Int)+2:=⟨(k - 2).toNat,by omega⟩
  refine⟨_,fun W=>c_Large n wt D W hck,fun hl W hb=>?_⟩
  have hC:cntF n wt≤72:=by have h:=of_decide_eq_false hl;unfold cntF;omega
  refine(c_New n wt D W (hT.below hb) hck hC).mono ?_
  rintro e w' ⟨⟨M,rfl,_,hm⟩,hb2⟩
  exact⟨.inr ⟨n,wt,M,_,_,_,rfl,rfl,rfl,⟨hck,rfl,Nat.le_trans (frs_length _ _) hC,hm,fun j f hj hf=>Nat.le_trans (coord_size (by omega) hC hj hf) (by omega),fun f hf=>relZ_of (by omega) hf⟩⟩,hb2⟩
 ·refine⟨false,fun W=>c_Large_bad N k D W hck,fun _ W _=>(c_New_check N k D W hck).mono ?_⟩
  rintro e w' ⟨rfl,hb⟩
  exact⟨.inl ⟨_,hck,rfl⟩,hb⟩
theorem ModR.keep {w w':World} {M n wt:Nat} {D:Int} {F:List Nat} {C:Nat} {X:Nat→Nat→Rat} (h:ModR w M n wt D F C X) (hb:Below w.heap.size w w'):ModR w' M n wt D F C X:=
 ⟨h.check,h.cnt,h.len,(h.mod.keep (Nat.le_refl _) hb).up hb.size,h.size,h.rel⟩
theorem QL.sl {F:Nat→FP} {w:World} {v:Value} {n:Nat} (h:QL F w v n):∃ p c,v=.slice p n c:=by
 rcases h with⟨h,a,c,e⟩ |⟨g,o,c,e,_⟩
 ·exact⟨a,c,by rw[e,h]⟩
 ·exact⟨_,c,e⟩
theorem QL.isS4 {f:Nat→Rat} {w:World} {v:Value} {n:Nat} (h:QL (fun j=>IsQ (f j)) w v n) (hf:∀ j,j<n→hq (f j)≤4):QL (fun j=>IsR (f j).num (f j).den) w v n:=h.isB hf
theorem c_CoordQ {M n wt:Nat} {D:Int} {F:List Nat} {C:Nat} {X:Nat→Nat→Rat} {w:World} (hT:Tab w) (h:ModR w M n wt D F C X) (v:Value) (f:Nat→Rat) (p q p' q':Int) (hp:QL (fun j=>IsQ (f j)) w v (wt+1)) (hf:∀ j,j<wt+1→hq (f j)≤4)
  (hp1:-9223372036854775808≤p) (hp2:p≤9223372036854775807) (hq1:-9223372036854775808≤q) (hq2:q≤9223372036854775807) (hr1:-9223372036854775808≤p') (hr2:p'≤9223372036854775807) (hs1:-9223372036854775808≤q') (hs2:q'≤9223372036854775807):
  Calls Tryz.prog 18 #[.pointer (some ⟨M,0,none⟩),.agg #[v,.int .i64 p,.int .i64 q,.int .i64 p',.int .i64 q']] w fun e w'=>CoRet w w' e p q p' q' n wt D F X f∧Below w.heap.size w w':=by
 have h1:=c_Coord M w.heap.size n wt D F C X v (fun j=>(f j).num) (fun j=>(f j).den) p q p' q' w hT h.check h.cnt h.len h.mod (Nat.le_refl _) h.size h.rel (hp.isS4 hf) hp1 hp2 hq1 hq2 hr1 hr2 hs1 hs2
 have e:(fun i=>Rat.divInt (f i).num ((f i).den:Int))=f:=funext fun i=>Rat.num_divInt_den (f i)
 rw[e]at h1
 exact h1
theorem chL_succ (x:Nat→Int) (n:Nat):chL x (n+1)=chL x n++[chC x (n+1)]:=by
 unfold chL
 rw[List.range_succ,List.map_append];rfl
theorem chL_length (x:Nat→Int) (n:Nat):(chL x n).length=n+1:=by unfold chL;simp
theorem c_Chain42 (p:Option Addr) (ln cp:Nat) (x:Nat→Int) (w:World) (hp:∀ k,k<ln→∃ g o,p=some ⟨g,o,none⟩∧g<w.heap.size∧w.cell? ⟨g,o+k,none⟩=some (.int .i8 (x k))) (hx:∀ k,k<ln→-128≤x k∧x k≤127) (hn:ln≤12):
  Calls Tryz.prog 28 #[.slice p ln cp] w fun e w'=>(∃ v,e=.returned v∧OwnC (chL x ln) w' w.heap.size v)∧Below w.heap.size w w':=by
 have HP:=Kh hp
 have HX:=Kh hx
 clear hp hx
 go_enter Tryz.func28,Tryz.ntmps28
 go_wp2_with fail
 obtain⟨w2,hw2,XM,XC,hb2⟩:=bx2 w #[.int .i64 1,.int .i64 0,.int .i64 0,.int .i64 1] 28 #[.int .i64 1,.int .i64 0] 24
 rw[hw2]
 obtain⟨gm,hgm⟩:∃ x,w.heap.size=x:=⟨_,rfl⟩
 obtain⟨B2,hB2⟩:∃ x,w.heap.size+1=x:=⟨_,rfl⟩
 have HG:=Kh (show gm<B2∧w.heap.size≤B2∧w.heap.size≤gm by omega)
 have HS:=Kh (show B2≤w2.heap.size by have h:=XC.lt;omega)
 have HO:=Kh (show OwnC (chL x 0) w2 B2 (.slice (some ⟨gm+1,0,none⟩) 1 1)from hgm▸own_lit (B:=B2) XC (by omega))
 rw[hgm]at XM ⊢
 try rw[hB2]
 have HM:=Kh XM
 have HB:=Kh hb2
 clear hw2 XM XC hb2 hgm hB2
 go_loopw [4,5] (fun vl ii wr=>∃ i:Nat,i≤ln∧ii=.int .i64 i∧OwnC (chL x i) wr B2 vl∧B2≤wr.heap.size∧Blk wr gm 28 #[.int .i64 (chM x i).1.1,.int .i64 (chM x i).1.2,.int .i64 (chM x i).2.1,.int .i64 (chM x i).2.2]∧Below w.heap.size w wr) (fun _ ii _=>ln - (intOf ii).toNat)
 case atStart=>exact⟨0,Nat.zero_le _,rfl,HO.out,HS.out,HM.out,HB.out⟩
 case round=>
  obtain⟨i,hi,rfl,ho,hsz,hm,hbw⟩:=hrel
  obtain⟨we,rfl⟩:∃ we:World,we=wr:=⟨_,rfl⟩
  have HOE:=Kh ho
  have HSE:=Kh hsz
  have HME:=Kh hm
  have HBE:=Kh hbw
  clear ho hsz hm hbw HO HS HM HB
  by_cases hlt:i<ln
  ·have hii:(i:Int)<(ln:Int):=by omega
   obtain⟨g,o,rfl,hg,hc⟩:=HP.out i hlt
   obtain⟨z,hz⟩:∃ z,x i=z:=⟨_,rfl⟩
   have hzb:=HX.out i hlt
   rw[hz]at hc hzb
   have a0:we.cell? ⟨g,o+i,none⟩=some (.int .i8 z):=(HBE.out.cell (p:=⟨g,o+i,none⟩) hg).trans hc
   have v0:IntKind.i64.wrap z=z:=IntWalk.i64_in _ (by omega)
   obtain⟨m,hm⟩:∃ m,z.tmod 6=m:=⟨_,rfl⟩
   have hmb:m.natAbs≤5:=hm▸tmod6 z
   have hsm:=chM_small x (show i<13 by omega)
   have hsn:=chM_small x (show i+1<13 by omega)
   have hnx:chM x (i+1)=(((chM x i).1.1*m+(chM x i).1.2,-(chM x i).1.1),((chM x i).2.1*m+(chM x i).2.2,-(chM x i).2.1)):=by rw[chM,hz,hm]
   have hcn:chC x (i+1)=nrm ((chM x i).1.1*m+(chM x i).1.2) ((chM x i).2.1*m+(chM x i).2.2):=by unfold chC;rw[hnx]
   have hdn:=nrm_sign (chM_det x (i+1))
   rw[hnx]at hsn hdn
   dsimp only at hsn hdn
   obtain⟨a,ha⟩:∃ a,(chM x i).1.1=a:=⟨_,rfl⟩
   obtain⟨b,hb⟩:∃ b,(chM x i).1.2=b:=⟨_,rfl⟩
   obtain⟨c,hc1⟩:∃ c,(chM x i).2.1=c:=⟨_,rfl⟩
   obtain⟨d,hd⟩:∃ d,(chM x i).2.2=d:=⟨_,rfl⟩
   rw[ha,hb,hc1,hd]at hsm hnx hcn
   rw[ha,hb,hc1,hd]at HME
   rw[ha,hb,hc1,hd]at hsn hdn
   have HNX:=Kh hnx
   have HCN:=Kh hcn
   have w1:IntKind.i64.wrap (a*m)=a*m:=IntWalk.i64_in _ (by have h:=abs_mul_le hsm.1.1 hmb;omega)
   have w2:IntKind.i64.wrap (c*m)=c*m:=IntWalk.i64_in _ (by have h:=abs_mul_le hsm.1.2 hmb;omega)
   have w3:IntKind.i64.wrap (a*m+b)=a*m+b:=IntWalk.i64_in _ (by omega)
   have w4:IntKind.i64.wrap (c*m+d)=c*m+d:=IntWalk.i64_in _ (by omega)
   have w5:IntKind.i64.wrap (-a)=-a:=IntWalk.i64_in _ (by omega)
   have w6:IntKind.i64.wrap (-c)=-c:=IntWalk.i64_in _ (by omega)
   obtain⟨P,hP⟩:∃ P,a*m+b=P:=⟨_,rfl⟩
   obtain⟨R,hR⟩:∃ R,c*m+d=R:=⟨_,rfl⟩
   rw[hP]at w3 hsn hdn HNX HCN
   rw[hR]at w4 hsn hdn HNX HCN
   have w7:IntKind.i64.wrap (-P)=-P:=IntWalk.i64_in _ (by omega)
   have w8:IntKind.i64.wrap (-R)=-R:=IntWalk.i64_in _ (by omega)
   have HDN:=Kh hdn.1
   have m0:=HME.out.at_ 0 rfl
   have m1:=HME.out.at_ 1 rfl
   have m2:=HME.out.at_ 2 rfl
   have m3:=HME.out.at_ 3 rfl
   have f0:=HME.out.free_ 0
   have f1:=HME.out.free_ 1
   have f2:=HME.out.free_ 2
   have f3:=HME.out.free_ 3
   clear hc hz hzb hmb hsm hsn hnx hcn hdn ha hb hc1 hd
   go_upto_region 8 with(fail)
   have XM:=(((HME.out.set_ 0 (.int .i64 P)).set_ 1 (.int .i64 (-a))).set_ 2 (.int .i64 R)).set_ 3 (.int .i64 (-c))
   obtain⟨ws,hws⟩:∃ ws,(((we.setCell ⟨gm,0,none⟩ (.int .i64 P)).setCell ⟨gm,1,none⟩ (.int .i64 (-a))).setCell ⟨gm,2,none⟩ (.int .i64 R)).setCell ⟨gm,3,none⟩ (.int .i64 (-c))=ws:=⟨_,rfl⟩
   have hgw:=HG.out.2.2
   have HBS:=Kh (show Below w.heap.size w ws from hws▸(((HBE.out.setCell (p:=⟨gm,0,none⟩) hgw _).setCell (p:=⟨gm,1,none⟩) hgw _).setCell (p:=⟨gm,2,none⟩) hgw _).setCell (p:=⟨gm,3,none⟩) hgw _)
   have HOS:=Kh (show OwnC (chL x i) ws B2 u4 by
    have q1:=HG.out.1
    rw[← hws]
    exact(((OwnK.other (a:=⟨gm,0,none⟩) HOE.out q1 (int_i64 P)).other (a:=⟨gm,1,none⟩) q1 (int_i64 (-a))).other (a:=⟨gm,2,none⟩) q1 (int_i64 R)).other (a:=⟨gm,3,none⟩) q1 (int_i64 (-c)))
   have HSS:=Kh (show B2≤ws.heap.size by rw[← hws];simpa using HSE.out)
   rw[hws]at XM ⊢
   have HMS:=Kh XM
   clear XM hws m0 m1 m2 m3 f0 f1 f2 f3 HME HOE HBE HSE hgw a0 v0 w1 w2 w3 w4 w5 w6 hP hR
   have m0:=HMS.out.at_ 0 rfl
   have m2:=HMS.out.at_ 2 rfl
   by_cases h1:R<0
   ·have h2:(-R==0)=false:=by rw[beq_eq_false_iff_ne];omega
    have e1:nrm P R=(-P,-R):=by unfold nrm;rw[if_pos h1]
    obtain⟨wt,hwt⟩:∃ wt,ws.alloc (.cells #[.int .i64 (-P),.int .i64 (-R)] 24)=wt:=⟨_,rfl⟩
    obtain⟨X,hbx⟩:=box1 ws #[.int .i64 (-P),.int .i64 (-R)] 24
    rw[hwt]at X hbx
    have HOT:=Kh (HOS.out.keep hbx)
    have HMT:=Kh (bk HMS hbx)
    have HBT:=bt HBS hbx
    have hsz:B2≤wt.heap.size:=Nat.le_trans HSS.out hbx.size
    have c0:=X.at_ 0 rfl
    have c1:=X.at_ 1 rfl
    have HLN:=Kh (show(chL x i).length+1≤14 by rw[chL_length];omega)
    rw[e1]at HCN
    clear X hbx HOS HMS HBS HSS
    go_wp2_with (at_builtin;refine wpl_app2 NotU32 rfl (.tmp 63) (.tmp 65) _ 24 rfl Tryz.underlying72 cuspInfo rfl (by decide) B2 (chL x i).length u4 (cusps (chL x i)) [.int .i64 (-P),.int .i64 (-R)] rfl HOT.out rfl rfl (two_one _ _) (by have:=HLN.out;omega) (by have:=HLN.out;omega) hsz (two_i64 _ _) nz_cusp ?_;intro v3 w9 hown3 hgr3 hat3;have HO3:=Kh (OwnC.push (a:=(-P,-R)) hown3);have HB3:=Kh (own_below HBT.out HOT.out.1 hgr3 HG.out.2.1 (Nat.le_trans HG.out.2.1 hsz));have HM3:=Kh (HMT.out.grown_ hgr3 (fun e=>by have:=own_ge HOT.out.1 e;have:=HG.out.1;omega));have HS3:=Kh (Nat.le_trans hsz hgr3.size);clear hown3 hgr3 hat3)
    go_roundw
    case rel=>exact⟨i+1,by omega,by go_num,by rw[chL_succ,HCN.out];exact HO3.out,HS3.out,by rw[HNX.out];exact HM3.out,HB3.out⟩
    case measure=>simp[intOf];omega
   ·by_cases h2:R=0
    ·subst h2
     have e1:nrm P 0=(1,0):=by unfold nrm;rw[if_neg h1,if_pos rfl]
     obtain⟨wt,hwt⟩:∃ wt,ws.alloc (.cells #[.int .i64 1,.int .i64 0] 24)=wt:=⟨_,rfl⟩
     obtain⟨X,hbx⟩:=box1 ws #[.int .i64 1,.int .i64 0] 24
     rw[hwt]at X hbx
     have HOT:=Kh (HOS.out.keep hbx)
     have HMT:=Kh (bk HMS hbx)
     have HBT:=bt HBS hbx
     have hsz:B2≤wt.heap.size:=Nat.le_trans HSS.out hbx.size
     have c0:=X.at_ 0 rfl
     have c1:=X.at_ 1 rfl
     have HLN:=Kh (show(chL x i).length+1≤14 by rw[chL_length];omega)
     rw[e1]at HCN
     clear X hbx HOS HMS HBS HSS
     go_wp2_with (at_builtin;refine wpl_app2 NotU32 rfl (.tmp 63) (.tmp 65) _ 24 rfl Tryz.underlying72 cuspInfo rfl (by decide) B2 (chL x i).length u4 (cusps (chL x i)) [.int .i64 1,.int .i64 0] rfl HOT.out rfl rfl (two_one _ _) (by have:=HLN.out;omega) (by have:=HLN.out;omega) hsz (two_i64 _ _) nz_cusp ?_;intro v3 w9 hown3 hgr3 hat3;have HO3:=Kh (OwnC.push (a:=(1,0)) hown3);have HB3:=Kh (own_below HBT.out HOT.out.1 hgr3 HG.out.2.1 (Nat.le_trans HG.out.2.1 hsz));have HM3:=Kh (HMT.out.grown_ hgr3 (fun e=>by have:=own_ge HOT.out.1 e;have:=HG.out.1;omega));have HS3:=Kh (Nat.le_trans hsz hgr3.size);clear hown3 hgr3 hat3)
     go_roundw
     case rel=>exact⟨i+1,by omega,by go_num,by rw[chL_succ,HCN.out];exact HO3.out,HS3.out,by rw[HNX.out];exact HM3.out,HB3.out⟩
     case measure=>simp[intOf];omega
    ·have h3:(R==0)=false:=by rw[beq_eq_false_iff_ne];exact h2
     have e1:nrm P R=(P,R):=by unfold nrm;rw[if_neg h1,if_neg h2]
     obtain⟨wt,hwt⟩:∃ wt,ws.alloc (.cells #[.int .i64 P,.int .i64 R] 24)=wt:=⟨_,rfl⟩
     obtain⟨X,hbx⟩:=box1 ws #[.int .i64 P,.int .i64 R] 24
     rw[hwt]at X hbx
     have HOT:=Kh (HOS.out.keep hbx)
     have HMT:=Kh (bk HMS hbx)
     have HBT:=bt HBS hbx
     have hsz:B2≤wt.heap.size:=Nat.le_trans HSS.out hbx.size
     have c0:=X.at_ 0 rfl
     have c1:=X.at_ 1 rfl
     have HLN:=Kh (show(chL x i).length+1≤14 by rw[chL_length];omega)
     rw[e1]at HCN
     clear X hbx HOS HMS HBS HSS
     go_wp2_with (at_builtin;refine wpl_app2 NotU32 rfl (.tmp 63) (.tmp 65) _ 24 rfl Tryz.underlying72 cuspInfo rfl (by decide) B2 (chL x i).length u4 (cusps (chL x i)) [.int .i64 P,.int .i64 R] rfl HOT.out rfl rfl (two_one _ _) (by have:=HLN.out;omega) (by have:=HLN.out;omega) hsz (two_i64 _ _) nz_cusp ?_;intro v3 w9 hown3 hgr3 hat3;have HO3:=Kh (OwnC.push (a:=(P,R)) hown3);have HB3:=Kh (own_below HBT.out HOT.out.1 hgr3 HG.out.2.1 (Nat.le_trans HG.out.2.1 hsz));have HM3:=Kh (HMT.out.grown_ hgr3 (fun e=>by have:=own_ge HOT.out.1 e;have:=HG.out.1;omega));have HS3:=Kh (Nat.le_trans hsz hgr3.size);clear hown3 hgr3 hat3)
     go_roundw
     case rel=>exact⟨i+1,by omega,by go_num,by rw[chL_succ,HCN.out];exact HO3.out,HS3.out,by rw[HNX.out];exact HM3.out,HB3.out⟩
     case measure=>simp[intOf];omega
  ·obtain rfl:ln=i:=by omega
   go_wp2
   go_ret
   exact⟨⟨_,rfl,HOE.out.low HG.out.2.1⟩,HBE.out⟩
end Go.Proofs.YtijgdhijdfgpfaaGreatDoor
