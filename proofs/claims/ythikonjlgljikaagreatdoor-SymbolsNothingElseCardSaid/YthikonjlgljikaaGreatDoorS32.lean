/- Lists of rows of fractions in memory: read, and of one's own in append's hands. -/
import Derived.Test.YthikonjlgljikaaGreatDoorS22
import Derived.Test.YthikonjlgljikaaGreatDoorS31
import Derived.Test.YthikonjlgljikaaGreatDoorS15
import Derived.Test.YthikonjlgljikaaGreatDoorS17
import Derived.Test.YthikonjlgljikaaGreatDoorS29
set_option linter.unusedSimpArgs false
set_option maxRecDepth 100000
set_option maxHeartbeats 8000000
namespace Go.Proofs.YthikonjlgljikaaGreatDoor
open Go.RowKit Eli
def RowV (f:Nat→Rat) (N:Nat) (w:World) (v:Value):Prop:=(∃ p c,v=.slice p N c)∧QL (fun q=>IsQ (f q)) w v N
theorem RowV.keep {f:Nat→Rat} {N:Nat} {w w':World} {v:Value} (h:RowV f N w v) (hb:Below w.heap.size w w'):RowV f N w' v:=⟨h.1,h.2.keep (fun _=>IsQ.solid _) hb⟩
theorem RowV.congr {f g:Nat→Rat} {N:Nat} {w:World} {v:Value} (h:RowV f N w v) (he:∀ q,q<N→g q=f q):RowV g N w v:=by
 refine⟨h.1,?_⟩
 rcases h.2 with h1 |⟨b,o,cap,e,hb,hq⟩
 ·exact .inl h1
 ·exact .inr ⟨b,o,cap,e,hb,fun j hj=>by
   show QE (IsQ (g j)) w b (o+j*4)
   rw[he j hj];exact hq j hj⟩
theorem RowV.but {f:Nat→Rat} {N:Nat} {w w':World} {v:Value} {R:Nat} (h:RowV f N w v) (hs:Stk SliceV w R) (hg:w.grownBy w' (some R)) (h32:I32 w w'):RowV f N w' v:=by
 refine⟨h.1,?_⟩
 rcases h.2 with h1 |⟨b,o,cap,e,hb,hq⟩
 ·exact .inl h1
 ·refine .inr ⟨b,o,cap,e,Nat.lt_of_lt_of_le hb hg.size,fun j hj=>?_⟩
  have h2:=hq j hj
  have hne:b≠R:=fun e1=>by
   obtain⟨s,p,n,c,t,q,m,d,h0,_⟩:=h2
   rw[e1]at h0
   obtain⟨p',n',c',h3⟩:=hs.2 _ _ h0
   cases h3
  exact h2.butR h32 hg hne
theorem RowV.grown {f:Nat→Rat} {N:Nat} {w w':World} {v:Value} {o:Option Nat} (h:RowV f N w v) (hs:∀ R,o=some R→Stk SliceV w R) (hg:w.grownBy w' o) (h32:I32 w w'):RowV f N w' v:=by
 refine⟨h.1,?_⟩
 rcases h.2 with h1 |⟨b,o',cap,e,hb,hq⟩
 ·exact .inl h1
 ·refine .inr ⟨b,o',cap,e,Nat.lt_of_lt_of_le hb hg.size,fun j hj=>?_⟩
  obtain⟨s,p,n,c,t,q,m,d,h0,e1,e2,e3,h4⟩:=hq j hj
  have hne:some b≠o:=fun e1=>by
   obtain⟨p',n',c',h3⟩:=(hs b e1.symm).2 _ _ h0
   cases h3
  exact⟨s,p,n,c,t,q,m,d,hg.cell h0 hne,hg.cell e1 hne,hg.cell e2 hne,hg.cell e3 hne,h4.i32 h32⟩
def GridL (l:List (Nat→Rat)) (N:Nat) (w:World) (v:Value):Prop:=
 (l=[]∧∃ p c,v=.slice p 0 c)∨∃ g o cap,v=.slice (some ⟨g,o,none⟩) l.length cap∧g<w.heap.size∧Stk SliceV w g∧∀ (j:Nat) x,l[j]?=some x→∃ vr,w.cell? ⟨g,o+j,none⟩=some vr∧RowV x N w vr
theorem Stk.keep {K:Value→Prop} {w w':World} {g:Nat} (h:Stk K w g) (hb:Below w.heap.size w w'):Stk K w' g:=⟨Nat.lt_of_lt_of_le h.1 hb.size,fun i v hv=>h.2 i v ((hb.cell (p:=⟨g,i,none⟩) h.1).symm.trans hv)⟩
theorem GridL.keep {l:List (Nat→Rat)} {N:Nat} {w w':World} {v:Value} (h:GridL l N w v) (hb:Below w.heap.size w w'):GridL l N w' v:=by
 rcases h with h |⟨g,o,cap,e,hg,hs,hx⟩
 ·exact .inl h
 ·refine .inr ⟨g,o,cap,e,Nat.lt_of_lt_of_le hg hb.size,hs.keep hb,fun j x hj=>?_⟩
  obtain⟨vr,h1,h2⟩:=hx j x hj
  exact⟨vr,(hb.cell (p:=⟨g,o+j,none⟩) hg).trans h1,h2.keep hb⟩
theorem GridL.val {l:List (Nat→Rat)} {N:Nat} {w:World} {v:Value} (h:GridL l N w v):∃ p c,v=.slice p l.length c:=by
 rcases h with⟨rfl,h⟩ |⟨g,o,cap,e,_⟩
 ·exact h
 ·exact⟨_,_,e⟩
def OwnG (l:List (Nat→Rat)) (N:Nat) (w:World) (B:Nat) (v:Value):Prop:=∃ xs,OwnK SliceV w B 24 1 v l.length xs∧∀ (j:Nat) x,l[j]?=some x→∃ vr,xs[j]?=some vr∧RowV x N w vr
theorem OwnG.nil (N:Nat) (w:World) (B:Nat):OwnG [] N w B (.slice none 0 0):=⟨[],OwnK.nil _ _ _ _ _,fun j x hx=>by simp at hx⟩
theorem OwnG.keep {l:List (Nat→Rat)} {N:Nat} {w w':World} {B:Nat} {v:Value} (h:OwnG l N w B v) (hb:Below w.heap.size w w'):OwnG l N w' B v:=by
 obtain⟨xs,h1,h2⟩:=h
 exact⟨xs,h1.keep hb,fun j x hx=>by obtain⟨vr,e,hr⟩:=h2 j x hx;exact⟨vr,e,hr.keep hb⟩⟩
theorem I32.grownS {w w':World} {B E sz n:Nat} {v:Value} {xs:List Value} (h:OwnK SliceV w B E sz v n xs) (hg:w.grownBy w' v.ownBlock):I32 w w':=I32.grown (K:=SliceV) (fun _ hx=>by obtain⟨p,n,c,e⟩:=hx;cases e) h.2 hg
theorem OwnG.push {l:List (Nat→Rat)} {N:Nat} {W w':World} {B:Nat} {v v':Value} {xs:List Value} (h1:OwnK SliceV W B 24 1 v l.length xs) (h2:∀ (j:Nat) x,l[j]?=some x→∃ vr,xs[j]?=some vr∧RowV x N W vr)
  {f:Nat→Rat} {vf:Value} (hf:RowV f N W vf) (h3:OwnK SliceV w' B 24 1 v' (l.length+1) (xs++[vf])) (hg:W.grownBy w' v.ownBlock):OwnG (l++[f]) N w' B v':=by
 have h32:=I32.grownS h1 hg
 have hl:xs.length=l.length:=by have:=h1.1.1;omega
 have hR:∀ (x:Nat→Rat) vr,RowV x N W vr→RowV x N w' vr:=fun x vr h=>h.grown (fun R e=>h1.2 R e) hg h32
 refine⟨xs++[vf],by rw[List.length_append];exact h3,fun j x hx=>?_⟩
 by_cases hj:j<l.length
 ·rw[List.getElem?_append_left hj]at hx
  obtain⟨vr,e,hr⟩:=h2 j x hx
  exact⟨vr,app_left e,hR _ _ hr⟩
 ·rw[List.getElem?_append_right (by omega)]at hx
  have hj2:j=l.length:=by
   rcases Nat.eq_zero_or_pos (j - l.length)with h|h
   ·omega
   ·rw[List.getElem?_eq_none (by rw[List.length_singleton];omega)]at hx;cases hx
  subst hj2
  rw[Nat.sub_self]at hx
  injection hx with hx
  subst hx
  exact⟨vf,by rw[List.getElem?_append_right (by omega),hl,Nat.sub_self];rfl,hR _ _ hf⟩
structure GRow (l:List (Nat→Rat)) (N:Nat) (w:World) (g:Nat):Prop where
 stk:Stk SliceV w g
 free:∀ i,w.frozen? ⟨g,i,none⟩=false
 val:∀ (j:Nat) x,l[j]?=some x→∃ vr,w.cell? ⟨g,j,none⟩=some vr∧RowV x N w vr
theorem OwnG.row {l:List (Nat→Rat)} {N:Nat} {w:World} {B:Nat} {v:Value} (h:OwnG l N w B v):(l=[]∧v=.slice none 0 0)∨∃ g cap,v=.slice (some ⟨g,0,none⟩) l.length cap∧l.length≤cap∧cap≤9223372036854775807∧B≤g∧g<w.heap.size∧GRow l N w g:=by
 obtain⟨xs,h1,h2⟩:=h
 rcases h1.1.2 with⟨e1,e2⟩ |⟨g,cap,cs,e1,hB,hg,hn,hcm,hcs,_⟩
 ·exact .inl ⟨List.eq_nil_of_length_eq_zero e2,e1⟩
 ·right
  have hs:=h1.2 g (by rw[e1];rfl)
  subst e1
  refine⟨g,cap,rfl,hn,by simp only[maxLen]at hcm;omega,hB,hs.1,⟨hs,fun i=>Blk.free_ hg i,fun j x hx=>?_⟩⟩
  obtain⟨vr,e,hr⟩:=h2 j x hx
  exact⟨vr,own_read h1.1 e,hr⟩
theorem OwnG.gl {l:List (Nat→Rat)} {N:Nat} {w:World} {B:Nat} {v:Value} (h:OwnG l N w B v):GridL l N w v:=by
 rcases h.row with⟨rfl,rfl⟩ |⟨g,cap,rfl,_,_,_,h3,h4⟩
 ·exact .inl ⟨rfl,_,_,rfl⟩
 ·exact .inr ⟨g,0,cap,rfl,h3,h4.stk,fun j x hx=>by rw[Nat.zero_add];exact h4.val j x hx⟩
theorem own_set1 {w:World} {B E g n cap i:Nat} {xs:List Value} (h:w.ownsRow B E 1 (.slice (some ⟨g,0,none⟩) n cap) n xs) (u:Value):(w.setCell ⟨g,i,none⟩ u).ownsRow B E 1 (.slice (some ⟨g,0,none⟩) n cap) n (xs.set i u):=by
 obtain⟨e0,h⟩:=h
 rcases h with⟨h1,_⟩ |⟨g',cap',cur,e1,hB,hg,hn,hc,hs,ht⟩
 ·cases h1
 ·cases e1
  refine⟨by rw[List.length_set];exact e0,.inr ⟨g,cap,cur.setIfInBounds i u,rfl,hB,?_,hn,hc,by rw[Array.size_setIfInBounds];exact hs,?_⟩⟩
  ·simp[World.setCell,Array.getElem?_modify,hg]
  ·rw[Array.toList_setIfInBounds,List.take_set,ht]
theorem OwnG.set {l:List (Nat→Rat)} {N:Nat} {w:World} {B i:Nat} {f:Nat→Rat} {g cap:Nat} {p:Option Addr} {c:Nat} (h:OwnG l N w B (.slice (some ⟨g,0,none⟩) l.length cap)) (hi:i<l.length) (hf:RowV f N w (.slice p N c)):
  OwnG (l.set i f) N (w.setCell ⟨g,i,none⟩ (.slice p N c)) B (.slice (some ⟨g,0,none⟩) l.length cap):=by
 obtain⟨xs,h1,h2⟩:=h
 have hl:xs.length=l.length:=by have:=h1.1.1;omega
 have hstk:=h1.2 g rfl
 have hg:=but_put w g i (.slice p N c)
 have h32:I32 w (w.setCell ⟨g,i,none⟩ (.slice p N c)):=I32.putU (hstk.imp fun _=>SliceV.notU32) i _
 refine⟨xs.set i (.slice p N c),?_,fun j x hx=>?_⟩
 ·rw[List.length_set]
  refine⟨own_set1 h1.1 _,fun g' e=>?_⟩
  have e2:g=g':=by simpa [Value.ownBlock] using e
  subst e2
  exact stk_put hstk _ _ ⟨_,_,_,rfl⟩
 ·by_cases hj:j=i
  ·subst hj
   rw[List.getElem?_set_self hi]at hx
   injection hx with hx
   subst hx
   exact⟨_,List.getElem?_set_self (by omega),hf.but hstk hg h32⟩
  ·rw[List.getElem?_set_ne (fun e=>hj e.symm)]at hx
   obtain⟨vr,e,hr⟩:=h2 j x hx
   exact⟨vr,by rw[List.getElem?_set_ne (fun e=>hj e.symm)];exact e,hr.but hstk hg h32⟩
end Go.Proofs.YthikonjlgljikaaGreatDoor
namespace Go.Proofs.YthikonjlgljikaaGreatDoor
namespace Eli
open Sie
structure GjAt (n B:Nat) (rows:Nat→Nat→Int) (m c:Nat) (ld:Nat→Bool) (L:Nat→Nat→Rat) (R:Nat→Nat→Int) (O:Nat→Nat→Rat) (A:(Nat→Rat)→Prop):Prop where
 inv:Inv B ld L R
 lt:∀ p,ld p=true→p<c
 le:c≤n
 sp:∀ p,ld p=true→RSp rows m (L p)
 out:∀ p,ld p=true→Sp ld L c (O p)∧O p p=1∧∀ p',ld p'=true→p'≠p→O p p'=0
 rest:∀ a,A a→(∀ q,q<c→a q=0)∧∃ i,i<m∧∃ u,Sp ld L c u∧∀ q,(rows i q:Rat)=a q+u q
 all:∀ i,i<m→∃ a u,(A a∨∀ q,a q=0)∧Sp ld L c u∧∀ q,(rows i q:Rat)=a q+u q
def unitQ (j q:Nat):Rat:=if q=j then 1 else 0
def unitZ (j q:Nat):Int:=if q=j then 1 else 0
theorem GjAt.start {n B m:Nat} {rows:Nat→Nat→Int} (hB:1≤B):GjAt n B rows m 0 (fun _=>false) unitQ unitZ (fun _ _=>0) (fun a=>∃ i,i<m∧∀ q,a q=(rows i q:Rat)) where
 inv:=by
  constructor
  ·intro j q hq;rw[unitQ,if_neg (by omega)]
  ·intro j;rw[unitQ,if_pos rfl]
  ·intro j _ q;rfl
  ·intro j _ q;rfl
  ·intro p hp;cases hp
  ·intro p q;rw[unitZ];split
   ·exact hB
   ·exact Nat.zero_le _
 lt:=fun p hp=>by cases hp
 le:=Nat.zero_le _
 sp:=fun p hp=>by cases hp
 out:=fun p hp=>by cases hp
 rest:=fun a ⟨i,hi,ha⟩=>⟨fun q hq=>absurd hq (Nat.not_lt_zero _),i,hi,fun _=>0,Sp.nil _ _ _,fun q=>by rw[ha];grind⟩
 all:=fun i hi=>⟨fun q=>(rows i q:Rat),fun _=>0,.inl ⟨i,hi,fun _=>rfl⟩,Sp.nil _ _ _,fun q=>by grind⟩
section
variable {n B m c:Nat} {rows:Nat→Nat→Int} {ld:Nat→Bool} {L:Nat→Nat→Rat} {R:Nat→Nat→Int} {O:Nat→Nat→Rat} {A:(Nat→Rat)→Prop}
theorem GjAt.skip (h:GjAt n B rows m c ld L R O A) (hc:c<n) (h0:∀ a,A a→a c=0):GjAt n B rows m (c+1) ld L R O A where
 inv:=h.inv
 lt:=fun p hp=>Nat.lt_succ_of_lt (h.lt p hp)
 le:=hc
 sp:=h.sp
 out:=fun p hp=>⟨(h.out p hp).1.mono (Nat.le_succ _),(h.out p hp).2⟩
 rest:=fun a ha=>by
  obtain⟨h1,i,hi,u,hu,he⟩:=h.rest a ha
  refine⟨fun q hq=>?_,i,hi,u,hu.mono (Nat.le_succ _),he⟩
  by_cases e:q=c
  ·rw[e];exact h0 a ha
  ·exact h1 q (by omega)
 all:=fun i hi=>by
  obtain⟨a,u,h1,h2,h3⟩:=h.all i hi
  exact⟨a,u,h1,h2.mono (Nat.le_succ _),h3⟩
theorem GjAt.same_rest (h:GjAt n B rows m c ld L R O A) {A':(Nat→Rat)→Prop} (h1:∀ a,A' a→∃ b,A b∧∀ q,a q=b q) (h2:∀ a,A a→∃ b,A' b∧∀ q,b q=a q):GjAt n B rows m c ld L R O A' where
 inv:=h.inv
 lt:=h.lt
 le:=h.le
 sp:=h.sp
 out:=h.out
 rest:=fun a ha=>by
  obtain⟨b,hb,e⟩:=h1 a ha
  obtain⟨h3,i,hi,u,hu,he⟩:=h.rest b hb
  exact⟨fun q hq=>by rw[e];exact h3 q hq,i,hi,u,hu,fun q=>by rw[e];exact he q⟩
 all:=fun i hi=>by
  obtain⟨a,u,h3,h4,h5⟩:=h.all i hi
  rcases h3 with h3|h3
  ·obtain⟨b,hb,e⟩:=h2 a h3
   exact⟨b,u,.inl hb,h4,fun q=>by rw[e];exact h5 q⟩
  ·exact⟨a,u,.inr h3,h4,h5⟩
theorem GjAt.rest_sp (h:GjAt n B rows m c ld L R O A) {u:Nat→Rat} (hu:Sp ld L c u):RSp rows m u:=RSp.of_sp hu (fun j _ hj=>h.sp j hj)
theorem GjAt.pivot (h:GjAt n B rows m c ld L R O A) (hb:∀ i q,(rows i q).natAbs≤B) (hc:c<n) {r:Nat→Rat} (hr:A r) (h0:r c≠0) {A':(Nat→Rat)→Prop} {O':Nat→Nat→Rat} {ld':Nat→Bool}
  (hl':∀ j,ld' j=(ld j||decide (j=c)))
  (h1:∀ a',A' a'→∃ a,A a∧∀ q,a' q=a q+-(a c)*(1 / r c*r q)) (h2:∀ a,A a→(∀ q,a q=r q)∨∃ a',A' a'∧∀ q,a' q=a q+-(a c)*(1 / r c*r q))
  (hO:∀ q,O' c q=1 / r c*r q) (hO':∀ p,ld p=true→∀ q,O' p q=O p q+-(O p c)*(1 / r c*r q)):
  ∃ L' R',GjAt n B rows m (c+1) ld' L' R' O' A':=by
 obtain⟨hz,i0,hi0,u0,hu0,he0⟩:=h.rest r hr
 have hcl:ld c=false:=by
  cases e:ld c with
  | false=>rfl
  | true=>exact absurd (h.lt c e) (Nat.lt_irrefl _)
 have hlc:ld' c=true:=by rw[hl',decide_eq_true rfl,Bool.or_true]
 have hln:∀ j,j≠c→ld' j=ld j:=fun j hj=>by rw[hl',decide_eq_false hj,Bool.or_false]
 have hlk:∀ j,ld j=true→ld' j=true:=fun j hj=>by rw[hl',hj,Bool.true_or]
 obtain⟨pv,hpv⟩:∃ pv:Nat→Rat,∀ q,pv q=1 / r c*r q:=⟨fun q=>1 / r c*r q,fun _=>rfl⟩
 have hp0:∀ q,q<c→pv q=0:=fun q hq=>by rw[hpv,hz q hq];grind
 have hp1:pv c=1:=by rw[hpv];grind
 have hpr:∀ q,r q=r c*pv q:=fun q=>by rw[hpv];grind
 obtain⟨L',hL'⟩:∃ L':Nat→Nat→Rat,L'=fun j=>if j=c then pv else L j:=⟨_,rfl⟩
 have hLc:L' c=pv:=by rw[hL'];exact if_pos rfl
 have hLn:∀ j,j≠c→L' j=L j:=fun j hj=>by rw[hL'];exact if_neg hj
 have hturn:∀ t u,Sp ld L t u→Sp ld' L' t u:=fun t u hu=>hu.turn fun j _ hj=>by
  have hne:j≠c:=fun e=>by rw[e,hcl]at hj;cases hj
  exact⟨hlk j hj,hLn j hne⟩
 have hup:∀ u,Sp ld L c u→Sp ld' L' (c+1) u:=fun u hu=>(hturn _ _ hu).mono (Nat.le_succ _)
 have hlead:Sp ld' L' (c+1) pv:=hLc▸Sp.lead (Nat.lt_succ_self _) hlc
 have hpsp:RSp rows m pv:=by
  have h3:RSp rows m (fun q=>(rows i0 q:Rat)+(-1)*u0 q):=(RSp.row hi0).combine (-1) (h.rest_sp hu0)
  exact((RSp.nil rows m).combine (1 / r c) h3).congr (fun q=>by rw[hpv,he0];grind)
 refine⟨L',fun j=>if j=c then rows i0 else R j,?_⟩
 constructor
 ·constructor
  ·intro j q hq
   by_cases e:j=c
   ·rw[e,hLc];exact hp0 q (by omega)
   ·rw[hLn j e];exact h.inv.low j q hq
  ·intro j
   by_cases e:j=c
   ·rw[e,hLc];exact hp1
   ·rw[hLn j e];exact h.inv.one j
  ·intro j hj q
   have e:j≠c:=fun e=>by rw[e,hlc]at hj;cases hj
   rw[hLn j e]
   exact h.inv.free j (by rw[← hln j e];exact hj) q
  ·intro j hj q
   have e:j≠c:=fun e=>by rw[e,hlc]at hj;cases hj
   simp only[if_neg e]
   exact h.inv.rfree j (by rw[← hln j e];exact hj) q
  ·intro p hp
   by_cases e:p=c
   ·subst e
    refine⟨r p,h0,u0,hturn _ _ hu0,fun q=>?_⟩
    rw[if_pos rfl,he0,hLc,← hpr]
   ·obtain⟨s,h3,u,hu,he⟩:=h.inv.got p (by rw[← hln p e];exact hp)
    refine⟨s,h3,u,hturn _ _ hu,fun q=>?_⟩
    rw[if_neg e,hLn p e]
    exact he q
  ·intro p q
   show((if p=c then rows i0 else R p) q).natAbs≤B
   split
   ·exact hb i0 q
   ·exact h.inv.bound p q
 ·intro p hp
  by_cases e:p=c
  ·omega
  ·exact Nat.lt_succ_of_lt (h.lt p (by rw[← hln p e];exact hp))
 ·exact hc
 ·intro p hp
  by_cases e:p=c
  ·rw[e,hLc];exact hpsp
  ·rw[hLn p e];exact h.sp p (by rw[← hln p e];exact hp)
 ·intro p hp
  by_cases e:p=c
  ·rw[e]
   refine⟨hlead.congr (fun q=>by rw[hO,hpv]),by rw[hO,← hpv];exact hp1,fun p' hp' hne=>?_⟩
   rw[hO,← hpv]
   exact hp0 p' (h.lt p' (by rw[← hln p' hne];exact hp'))
  ·have hp2:ld p=true:=by rw[← hln p e];exact hp
   obtain⟨h3,h4,h5⟩:=h.out p hp2
   have hlt:=h.lt p hp2
   refine⟨((hup _ h3).combine (-(O p c)) hlead).congr (fun q=>by rw[hO' p hp2,hpv]),?_,fun p' hp' hne=>?_⟩
   ·rw[hO' p hp2,← hpv,hp0 p hlt,h4];grind
   ·rw[hO' p hp2,← hpv]
    by_cases e2:p'=c
    ·rw[e2,hp1];grind
    ·have hp3:ld p'=true:=by rw[← hln p' e2];exact hp'
     rw[hp0 p' (h.lt p' hp3),h5 p' hp3 hne];grind
 ·intro a' ha'
  obtain⟨a,ha,ea⟩:=h1 a' ha'
  obtain⟨h3,i,hi,u,hu,he⟩:=h.rest a ha
  refine⟨fun q hq=>?_,i,hi,_,(hup _ hu).combine (a c) hlead,fun q=>?_⟩
  ·rw[ea,← hpv]
   by_cases e:q=c
   ·rw[e,hp1];grind
   ·rw[hp0 q (by omega),h3 q (by omega)];grind
  ·rw[he,ea,hpv];grind
 ·intro i hi
  obtain⟨a,u,h3,h4,h5⟩:=h.all i hi
  rcases h3 with h3|h3
  ·rcases h2 a h3 with h6 |⟨a',h6,h7⟩
   ·refine⟨fun _=>0,_,.inr (fun _=>rfl),(hup _ h4).combine (r c) hlead,fun q=>?_⟩
    rw[h5,h6,hpr];grind
   ·refine⟨a',_,.inl h6,(hup _ h4).combine (a c) hlead,fun q=>?_⟩
    rw[h5,h7,hpv];grind
  ·exact⟨a,u,.inr h3,hup _ h4,h5⟩
theorem top_pos (n B:Nat):1≤top n B:=by
 rw[top]
 refine nd_pos.2 ?_
 have h:0<cap n B:=Nat.pow_pos (Nat.succ_pos _)
 omega
theorem GjAt.rest_size (h:GjAt n B rows m c ld L R O A) (hb:∀ i q,(rows i q).natAbs≤B) {a:Nat→Rat} (ha:A a) (q:Nat):hq (a q)≤top n B:=by
 obtain⟨h3,i,hi,u,hu,he⟩:=h.rest a ha
 obtain⟨k,N,hk,hkc,hN,hE⟩:=h.inv.height (rows i) (hb i) a c u hu he h3
 rw[rat_of_mul hk (hE q)]
 exact hq_over hk (nd_top1 h.le (hN _)) (nd_top2 h.le hkc)
theorem GjAt.pivot_size (h:GjAt n B rows m c ld L R O A) (hb:∀ i q,(rows i q).natAbs≤B) {a:Nat→Rat} (ha:A a) (h0:a c≠0) (q:Nat):hq (1 / a c*a q)≤top n B:=by
 obtain⟨h3,i,hi,u,hu,he⟩:=h.rest a ha
 obtain⟨k,N,hk,hkc,hN,hE⟩:=h.inv.height (rows i) (hb i) a c u hu he h3
 have hkr:(k:Rat)≠0:=fun e=>hk (by exact_mod_cast e)
 have h1:=hE c
 have h2:=hE q
 have h4:N c≠0:=fun e=>by
  rw[e]at h1
  rcases Rat.mul_eq_zero.1 (h1.trans rfl)with h5|h5
  ·exact hkr h5
  ·exact h0 h5
 have h6:(N c:Rat)*(1 / a c*a q)=(N q:Rat):=by rw[← h1,← h2];grind
 rw[rat_of_mul h4 h6]
 exact hq_over h4 (nd_top1 h.le (hN _)) (nd_top1 h.le (hN _))
theorem RSp.high {u:Nat→Rat} (hu:RSp rows m u) (h0:∀ i q,n≤q→rows i q=0) (q:Nat) (hq:n≤q):u q=0:=by
 obtain⟨z,hz⟩:=hu
 rw[hz]
 exact sumQ_zero (fun i _=>by rw[h0 i q hq];have:((0:Int):Rat)=0:=rfl;rw[this];grind)
theorem GjAt.unit (h:GjAt n B rows m c ld L R O A) (h0:∀ i q,n≤q→rows i q=0) {p:Nat} (hp:ld p=true) (q:Nat):unitQ p q=sumQ (fun f=>(if ld f then 0 else -(O p f))*L f q) n+O p q:=by
 obtain⟨h1,h2,h3⟩:=h.out p hp
 have hpn:p<n:=Nat.lt_of_lt_of_le (h.lt p hp) h.le
 rw[unitQ]
 by_cases hqn:q<n
 ·have e1:sumQ (fun f=>(if ld f then 0 else -(O p f))*L f q) n=(if ld q then 0 else -(O p q)):=by
   rw[sumQ_single hqn (fun i _ hne=>?_)]
   ·cases hl:ld q with
    | true=>simp
    | false=>rw[h.inv.one];simp
   ·cases hl:ld i with
    | true=>simp
    | false=>rw[h.inv.free i hl,show(if q=i then(1:Rat)else 0)=0 from if_neg (fun e=>hne e.symm)];exact Rat.mul_zero _
  rw[e1]
  cases hl:ld q with
  | true=>
   by_cases e:q=p
   ·rw[if_pos e,e,h2];simp;grind
   ·rw[if_neg e,h3 q hl e];simp;grind
  | false=>
   have e:q≠p:=fun e=>by rw[e,hp]at hl;cases hl
   rw[if_neg e];simp;grind
 ·rw[if_neg (by omega),RSp.high (h.rest_sp h1) h0 q (by omega),sumQ_zero (fun i hi=>?_)]
  ·grind
  ·cases hl:ld i with
   | true=>simp
   | false=>rw[h.inv.free i hl,show(if q=i then(1:Rat)else 0)=0 from if_neg (by omega)];exact Rat.mul_zero _
theorem GjAt.out_size (h:GjAt n B rows m c ld L R O A) (hB:1≤B) (h0:∀ i q,n≤q→rows i q=0) {p:Nat} (hp:ld p=true) (q:Nat):hq (O p q)≤top n B:=by
 obtain⟨h1,h2,h3⟩:=h.out p hp
 by_cases hqn:q<n
 ·cases hl:ld q with
  | true=>
   by_cases e:q=p
   ·rw[e,h2,hq_one];exact top_pos n B
   ·rw[h3 q hl e,hq_zero];exact top_pos n B
  | false=>
   obtain⟨k,N,hk,hkc,hN,hE⟩:=h.inv.coords (unitZ p) (fun q=>by rw[unitZ];split <;> simp <;> omega) n (fun f=>-(O p f)) (O p) (h1.mono h.le) (fun q=>by
    rw[← h.unit h0 hp q,unitZ,unitQ];split <;> rfl)
   have h4:=hE q hqn hl
   rw[← hq_neg,rat_of_mul hk h4]
   exact hq_over hk (nd_top2 (Nat.le_refl _) (hN q hqn)) (nd_top2 (Nat.le_refl _) hkc)
 ·rw[RSp.high (h.rest_sp h1) h0 q (by omega),hq_zero];exact top_pos n B
theorem Inv.lead_of {B n j:Nat} {ld:Nat→Bool} {L:Nat→Nat→Rat} {R:Nat→Nat→Int} (h:Inv B ld L R) {u:Nat→Rat} (hu:Sp ld L n u) (h0:∀ q,q<j→u q=0) (h1:u j≠0) (hj:j<n):ld j=true:=by
 obtain⟨z,hz,ez⟩:=hu
 have hcut:∀ q,q≤j→sumQ (fun i=>z i*L i q) n=sumQ (fun i=>z i*L i q) (j+1):=fun q hq=>sumQ_tail (by omega) (fun i h2 h3=>by rw[h.low i q (by omega)];grind)
 have h2:=h.tri (t:=j) (z:=z) (fun q hq=>by
  have h3:=h0 q hq
  rw[ez,hcut q (by omega),sumQ,h.low j q hq]at h3
  grind)
 cases hl:ld j with
 | true=>rfl
 | false=>
  refine absurd ?_ h1
  rw[ez,hcut j (Nat.le_refl _),sumQ,hz j hj hl,sumQ_zero (fun i hi=>by rw[h2 i hi];grind)]
  grind
theorem GjAt.done (h:GjAt n B rows m c ld L R O A) (h0:∀ i q,n≤q→rows i q=0) (he:c=n∨∀ a,¬ A a) (i:Nat) (hi:i<m):Sp ld L n (fun q=>(rows i q:Rat)):=by
 obtain⟨a,u,h1,h2,h3⟩:=h.all i hi
 refine(h2.mono h.le).congr (fun q=>?_)
 have ha:a q=0:=by
  rcases h1 with h1|h1
  ·rcases he with he|he
   ·by_cases hq:q<n
    ·exact(h.rest a h1).1 q (by omega)
    ·have h4:=h3 q
     rw[h0 i q (by omega),RSp.high (h.rest_sp h2) h0 q (by omega)]at h4
     have:((0:Int):Rat)=0:=rfl
     rw[this]at h4
     grind
   ·exact absurd h1 (he a)
  ·exact h1 q
 rw[h3,ha];grind
theorem GjAt.same_ld (h:GjAt n B rows m c ld L R O A) (hB:1≤B) (hb:∀ i q,(rows i q).natAbs≤B) (h0:∀ i q,n≤q→rows i q=0) (he:c=n∨∀ a,¬ A a) (j:Nat) (hj:j<n):ld j=ldOf (elim n rows m) j:=by
 obtain⟨s1,s2⟩:=elim_span hB hb h0 m
 have hg:=Good.elim hB hb h0 m
 obtain⟨R2,hi⟩:=hg.inv
 have k1:ldOf (elim n rows m) j=true→ld j=true:=fun hl=>by
  have h1:=(s2 j hl).sp (h.done h0 he)
  exact h.inv.lead_of h1 (fun q hq=>hi.low j q hq) (by rw[hi.one];grind) hj
 have k2:ld j=true→ldOf (elim n rows m) j=true:=fun hl=>by
  have h1:=(h.sp j hl).sp s1
  exact hi.lead_of h1 (fun q hq=>h.inv.low j q hq) (by rw[h.inv.one];grind) hj
 cases e1:ld j with
 | true=>exact(k2 e1).symm
 | false=>
  cases e2:ldOf (elim n rows m) j with
  | true=>rw[k1 e2]at e1;cases e1
  | false=>rfl
end
end Eli
end Go.Proofs.YthikonjlgljikaaGreatDoor
namespace Go.Proofs.YthikonjlgljikaaGreatDoor
open Go.RowKit Eli
def pvs (ld:Nat→Bool) (c:Nat):List Nat:=(List.range c).filter ld
theorem pvs_succ (ld:Nat→Bool) (c:Nat):pvs ld (c+1)=if ld c then pvs ld c++[c]else pvs ld c:=by
 rw[pvs,List.range_succ,List.filter_append,List.filter_cons]
 cases ld c with
 | true=>rfl
 | false=>exact List.append_nil _
theorem pvs_congr {ld ld':Nat→Bool} {c:Nat} (h:∀ j,j<c→ld' j=ld j):pvs ld' c=pvs ld c:=List.filter_congr (fun j hj=>h j (List.mem_range.1 hj))
theorem pvs_mem {ld:Nat→Bool} {c p:Nat}:p∈pvs ld c↔p<c∧ld p=true:=by rw[pvs,List.mem_filter,List.mem_range]
theorem pvs_stop {ld:Nat→Bool} {c n:Nat} (hc:c≤n) (h:∀ p,ld p=true→p<c):pvs ld n=pvs ld c:=by
 induction n with
 | zero=>obtain rfl:c=0:=by omega
         rfl
 | succ n ih=>
  by_cases e:c=n+1
  ·rw[e]
  ·rw[pvs_succ,if_neg (fun hl=>by have:=h n hl;omega),ih (by omega)]
def clr (pv:Nat→Rat) (c:Nat) (x:Nat→Rat):Nat→Rat:=fun q=>x q+-(x c)*pv q
theorem OwnG.all {l:List (Nat→Rat)} {N:Nat} {w:World} {B:Nat} {v:Value} {xs:List Value} (h1:OwnK SliceV w B 24 1 v l.length xs) (h2:∀ (j:Nat) x,l[j]?=some x→∃ vr,xs[j]?=some vr∧RowV x N w vr):∀ u∈xs,SliceV u:=by
 intro u hu
 obtain⟨j,hj,e⟩:=List.getElem_of_mem hu
 have hl:xs.length=l.length:=by have:=h1.1.1;omega
 obtain⟨vr,e1,⟨p,c,e2⟩,_⟩:=h2 j l[j] (List.getElem?_eq_getElem (by omega))
 rw[List.getElem?_eq_getElem hj,e]at e1
 injection e1 with e1
 exact⟨p,N,c,e1.trans e2⟩
theorem SliceV.one {u:Value} (h:SliceV u):u.oneCell'=true:=by
 obtain⟨p,n,c,rfl⟩:=h
 rfl
theorem OwnG.val {l:List (Nat→Rat)} {N:Nat} {w:World} {B:Nat} {v:Value} (h:OwnG l N w B v):∃ p c,v=.slice p l.length c:=by
 obtain⟨xs,h1,_⟩:=h
 exact own_slice h1.1
theorem OwnN.val {l:List Nat} {w:World} {B:Nat} {v:Value} (h:OwnN l w B v):∃ p c,v=.slice p l.length c:=own_slice h.1
theorem OwnG.base {l:List (Nat→Rat)} {N:Nat} {w:World} {B B':Nat} {v:Value} (h:OwnG l N w B v) (hB:B'≤B):OwnG l N w B' v:=by
 obtain⟨xs,h1,h2⟩:=h
 refine⟨xs,⟨⟨h1.1.1,?_⟩,h1.2⟩,h2⟩
 rcases h1.1.2 with h |⟨g',cap,cs,e,hB',hr⟩
 ·exact .inl h
 ·exact .inr ⟨g',cap,cs,e,Nat.le_trans hB hB',hr⟩
theorem OwnG.ge {l:List (Nat→Rat)} {N:Nat} {w:World} {B g:Nat} {v:Value} (h:OwnG l N w B v) (e:v.ownBlock=some g):B≤g∧g<w.heap.size:=by
 obtain⟨xs,h1,_⟩:=h
 exact⟨own_ge h1.1 e.symm,(h1.2 g e).1⟩
theorem OwnN.ge {l:List Nat} {w:World} {B g:Nat} {v:Value} (h:OwnN l w B v) (e:v.ownBlock=some g):B≤g∧g<w.heap.size:=⟨own_ge h.1 e.symm,(h.2 g e).1⟩
theorem OwnK.but {K:Value→Prop} {w w':World} {B E sz n:Nat} {v:Value} {xs:List Value} {R:Option Nat} (h:OwnK K w B E sz v n xs) (hg:w.grownBy w' R) (hne:∀ g,v.ownBlock=some g→R≠some g):OwnK K w' B E sz v n xs:=by
 refine⟨h.1.kept hg ?_,fun g e=>?_⟩
 ·cases hv:v.ownBlock with
  | none=>exact .inl rfl
  | some g=>exact .inr (fun e=>hne g hv e.symm)
 ·have hs:=h.2 g e
  have hb:=hg.block g hs.1 (fun e2=>hne g e e2.symm)
  exact⟨Nat.lt_of_lt_of_le hs.1 hg.size,fun i u hu=>hs.2 i u ((World.cell?_of_block (a:=⟨g,i,none⟩) hb).symm.trans hu)⟩
theorem OwnG.but {l:List (Nat→Rat)} {N:Nat} {w w':World} {B:Nat} {v:Value} {R:Option Nat} (h:OwnG l N w B v) (hs:∀ r,R=some r→Stk SliceV w r) (hg:w.grownBy w' R) (h32:I32 w w') (hne:∀ g,v.ownBlock=some g→R≠some g):OwnG l N w' B v:=by
 obtain⟨xs,h1,h2⟩:=h
 exact⟨xs,h1.but hg hne,fun j x hx=>by obtain⟨vr,e,hr⟩:=h2 j x hx;exact⟨vr,e,hr.grown hs hg h32⟩⟩
def IntV (v:Value):Prop:=∃ n,v=.int .i64 n
theorem OwnG.shape {l:List (Nat→Rat)} {N:Nat} {w:World} {B:Nat} {v:Value} (h:OwnG l N w B v):∃ p c,v=.slice p l.length c∧∀ (j:Nat) x,l[j]?=some x→∃ g,p=some ⟨g,0,none⟩∧B≤g∧g<w.heap.size∧(Stk SliceV w g∧∀ i,w.frozen? ⟨g,i,none⟩=false)∧∃ vr,w.cell? ⟨g,j,none⟩=some vr∧RowV x N w vr:=by
 rcases h.row with⟨rfl,rfl⟩ |⟨g,cap,rfl,_,_,hB,hg,hr⟩
 ·exact⟨none,0,rfl,fun j x hx=>by simp at hx⟩
 ·exact⟨_,cap,rfl,fun j x hx=>⟨g,rfl,hB,hg,⟨hr.stk,hr.free⟩,hr.val j x hx⟩⟩
def OwnI (l:List Nat) (w:World) (B:Nat) (v:Value):Prop:=OwnK IntV w B 3 1 v l.length (l.map fun n:Nat=>Value.int .i64 (n:Int))
theorem OwnI.nil (w:World) (B:Nat):OwnI [] w B (.slice none 0 0):=OwnK.nil _ _ _ _ _
theorem OwnI.keep {l:List Nat} {w w':World} {B:Nat} {v:Value} (h:OwnI l w B v) (hb:Below w.heap.size w w'):OwnI l w' B v:=OwnK.keep h hb
theorem OwnI.push {l:List Nat} {w':World} {B:Nat} {v':Value} {a:Nat} (h:OwnK IntV w' B 3 1 v' (l.length+1) ((l.map fun n:Nat=>Value.int .i64 (n:Int))++[.int .i64 (a:Int)])):OwnI (l++[a]) w' B v':=by
 unfold OwnI
 rw[List.map_append,List.length_append]
 exact h
theorem OwnI.val {l:List Nat} {w:World} {B:Nat} {v:Value} (h:OwnI l w B v):∃ p c,v=.slice p l.length c:=own_slice h.1
theorem OwnI.ge {l:List Nat} {w:World} {B g:Nat} {v:Value} (h:OwnI l w B v) (e:v.ownBlock=some g):B≤g∧g<w.heap.size:=⟨own_ge h.1 e.symm,(h.2 g e).1⟩
theorem iv1 (n:Int):∀ u∈[Value.int .i64 n],IntV u:=by
 intro u hu
 simp at hu
 exact⟨n,hu⟩
theorem ione1 (n:Int):∀ u∈[Value.int .i64 n],u.oneCell'=true:=by
 intro u hu
 simp at hu
 rw[hu];rfl
theorem ivz:∀ u∈(Value.int .i64 0).cells.toList,IntV u:=by
 intro u hu
 simp[Value.cells]at hu
 exact⟨0,hu⟩
theorem not_iv32 (n:Int):¬ IntV (.int .u32 n):=fun⟨_,e⟩=>by cases e
end Go.Proofs.YthikonjlgljikaaGreatDoor
