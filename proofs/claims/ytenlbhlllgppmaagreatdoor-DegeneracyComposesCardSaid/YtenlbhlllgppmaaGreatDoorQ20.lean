/- The table of leads and the row under way in memory, for symbols.eliminate. -/
import Derived.Test.YtenlbhlllgppmaaGreatDoorQ19
set_option linter.unusedSimpArgs false
set_option maxRecDepth 100000
set_option maxHeartbeats 8000000
namespace Go.Proofs.YtenlbhlllgppmaaGreatDoor
section
open Go.RowKit Eli Tryz
def SliceV (v:Value):Prop:=∃p n c,v=.slice p n c
theorem SliceV.notU32 {v:Value} (h:SliceV v):NotU32 v:=by
 obtain⟨p,n,c,rfl⟩:=h;exact λ_ h=>by cases h
theorem Stk.imp {K H:Value->Prop} {w:World} {G:Nat} (h:Stk K w G) (I:∀v,K v->H v):Stk H w G:=⟨h.1,λi v J=>I v (h.2 i v J)⟩
theorem OwnT.base {l:List (Nat×Rat)} {w:World} {B B':Nat} {v:Value} (h:OwnT l w B v) (hB:B'<=B):OwnT l w B' v:=by
 obtain⟨V,⟨⟨I,H⟩,U⟩,O⟩:=h;refine⟨V,⟨⟨I,?_⟩,U⟩,O⟩;rcases H with H |⟨g,cap,cs,J,hg,rest⟩
 ·exact .inl H
 ·exact .inr ⟨g,cap,cs,J,kU hB hg,rest⟩
structure LeadTab (L:Nat->List (Nat×Rat)) (w:World) (G C B:Nat):Prop where
 stk:Stk SliceV w G
 free:∀i,i<C->w.frozen? ⟨G,i,none⟩=false
 val:∀j,j<C->∃v,w.cell? ⟨G,j,none⟩=some v/\TL (L j) w B v/\(L j=[]->v=.slice none 0 0)
theorem LeadTab.next {L:Nat->List (Nat×Rat)} {w w':World} {G C B B':Nat} (h:LeadTab L w G C B) (I:I32 w w') (H:Below B' w w') (J:G<B') (hB:B<=B'):LeadTab L w' G C B:=
 ⟨⟨kV h.stk.1 H.size,λi v Z=>h.stk.2 i v ((H.cell (p:=⟨G,i,none⟩) J).symm.trans Z)⟩,
  λi O=>(World.frozen?_of_block (a:=⟨G,i,none⟩) (H.block G J)).trans (h.free i O),
  λj U=>by
   obtain⟨v,e,Y,V⟩:=h.val j U;exact⟨v,(H.cell (p:=⟨G,j,none⟩) J).trans e,Y.next I (H.mono hB),V⟩⟩
theorem LeadTab.keep {L:Nat->List (Nat×Rat)} {w w':World} {G C B:Nat} (h:LeadTab L w G C B) (hB:B<=w.heap.size) (H:Below w.heap.size w w'):LeadTab L w' G C B:=h.next (I32.below H) H h.stk.1 hB
theorem LeadTab.up {L:Nat->List (Nat×Rat)} {w:World} {G C B B':Nat} (h:LeadTab L w G C B) (hB:B<=B'):LeadTab L w G C B':=
 ⟨h.stk,h.free,λj H=>by obtain⟨v,e,J,I⟩:=h.val j H;exact⟨v,e,J.up hB,I⟩⟩
theorem TL.store {l:List (Nat×Rat)} {w:World} {B G x:Nat} {v u:Value} (h:TL l w B v) (U:Stk SliceV w G):TL l (w.setCell ⟨G,x,none⟩ u) B v:=by
 rcases h with h |⟨g,o,cap,e,hc,I,hg,ht⟩
 ·exact .inl h
 ·refine .inr ⟨g,o,cap,e,hc,I,hg,λj y hy=>?_⟩
  obtain⟨O,s,p,n,c,t,q,m,d,V,Y,Z,e4,e5⟩:=ht j y hy
  have J:G≠g:=λe=>by
   obtain⟨p,n,c,h1⟩:=U.2 (o+j*5) _ (by rw[e];exact O);cases h1
  have H:∀i v,w.cell? ⟨g,i,none⟩=some v->(w.setCell ⟨G,x,none⟩ u).cell? ⟨g,i,none⟩=some v:=λi v e=>by
   rw[World.cell?_setCell_far w ⟨G,x,none⟩ ⟨g,i,none⟩ u J];exact e
  exact⟨H _ _ O,s,p,n,c,t,q,m,d,H _ _ V,H _ _ Y,H _ _ Z,H _ _ e4,e5.i32 (I32.putU (U.imp λ_=>SliceV.notU32) x u)⟩
theorem LeadTab.put {L:Nat->List (Nat×Rat)} {w:World} {G C B x:Nat} {l:List (Nat×Rat)} {p:Option Addr} {n c:Nat} (h:LeadTab L w G C B) (Z:x<C) (U:l≠[]) (Y:TL l w B (.slice p n c)):
  LeadTab (λj=>if j=x then l else L j) (w.setCell ⟨G,x,none⟩ (.slice p n c)) G C B:=by
 refine⟨Bc h.stk _ _ ⟨p,n,c,rfl⟩,λi J=>At (h.free i J),λj O=>?_⟩;obtain⟨v,e,I,V⟩:=h.val j O;by_cases hjx:j=x
 ·subst hjx
  refine⟨.slice p n c,World.cell?_setCell_same' _ _ _ (by rw[e];rfl),?_,λH=>?_⟩
  ·rw[if_pos rfl];exact Y.store h.stk
  ·rw[if_pos rfl]at H;exact absurd H U
 ·refine⟨v,?_,?_,λH=>?_⟩
  ·rw[World.cell?_setCell_other _ _ _ _ (by simp <;> omega)];exact e
  ·rw[if_neg hjx];exact I.store h.stk
  ·rw[if_neg hjx]at H;exact V H
def iU (C:Nat) (w:World) (v:Value):Nat:=
 match v with
 |.slice (some a) (_+1) _=>C+1 - (intOf (cellOf w a)).toNat
 | _=>0
theorem Pd {C:Nat} {w:World} {B:Nat} {x:Nat×Rat} {r:List (Nat×Rat)} {v:Value} (h:OwnT (x :: r) w B v):iU C w v=C+1 - x.1:=by
 rcases h.row with⟨e,_⟩ |⟨g,cap,rfl,_,_,_,_,I⟩
 ·cases e
 ·have H:=(I.val 0 x rfl).1
  rw[Nat.zero_mul]at H;rw[List.length_cons];show C+1 - (intOf (cellOf w ⟨g,0,none⟩)).toNat=_;rw[Ae H];simp[intOf]
theorem aQ {C:Nat} {w:World} {B:Nat} {v:Value} (h:OwnT [] w B v):iU C w v=0:=by
 rcases h.row with⟨_,rfl⟩ |⟨g,cap,rfl,_⟩ <;> rfl
def Ef (c:Rat) (k:Nat) (r:List (Nat×Rat)):List (Nat×Rat):=r.mapIdx λj y=>(y.1,if j<k then c*y.2 else y.2)
theorem Hm (c:Rat) (k:Nat) (r:List (Nat×Rat)):(Ef c k r).length=r.length:=by unfold Ef;rw[List.length_mapIdx]
theorem Eg (c:Rat) (k:Nat) (r:List (Nat×Rat)) (j:Nat):(Ef c k r)[j]?=(r[j]?).map λy=>(y.1,if j<k then c*y.2 else y.2):=by unfold Ef;rw[List.getElem?_mapIdx]
theorem Rg (c:Rat) (r:List (Nat×Rat)):Ef c 0 r=r:=by
 refine List.ext_getElem? λj=>?_
 rw[Eg];cases r[j]? <;> simp
theorem Us (c:Rat) (r:List (Nat×Rat)):Ef c r.length r=r.map λy=>(y.1,c*y.2):=by
 refine List.ext_getElem? λj=>?_
 rw[Eg,List.getElem?_map];by_cases h:j<r.length
 ·rw[List.getElem?_eq_getElem h];simp[h]
 ·rw[List.getElem?_eq_none (by omega)];rfl
theorem TRow.keep {l:List (Nat×Rat)} {w w':World} {g:Nat} (h:TRow l w g) (H:Below w.heap.size w w'):TRow l w' g:=
 ⟨h.stk.next H,λi I=>Ab H (h.has i I) (h.free i I),λi I=>by rw[H.cell (p:=⟨g,i,none⟩) h.stk.1];exact h.has i I,λj x J=>(h.val j x J).keep H⟩
theorem TRow.tl {l:List (Nat×Rat)} {w:World} {g cap:Nat} (h:TRow l w g) (H:l.length<=cap) (I:cap<=9223372036854775807):TL l w w.heap.size (.slice (some ⟨g,0,none⟩) l.length cap):=
 .inr ⟨g,0,cap,rfl,H,I,h.stk.1,λj x J=>by rw[Nat.zero_add];exact h.val j x J⟩
theorem I32.putT {w:World} {g k:Nat} (H:Stk NotU32 w g) (s t:Bool) (p q:Option Addr) (n c m d:Nat):
  Stk NotU32 ((((w.setCell ⟨g,k*5+1,none⟩ (.bool s)).setCell ⟨g,k*5+2,none⟩ (.slice p n c)).setCell ⟨g,k*5+3,none⟩ (.bool t)).setCell ⟨g,k*5+4,none⟩ (.slice q m d)) g /\
  I32 w ((((w.setCell ⟨g,k*5+1,none⟩ (.bool s)).setCell ⟨g,k*5+2,none⟩ (.slice p n c)).setCell ⟨g,k*5+3,none⟩ (.bool t)).setCell ⟨g,k*5+4,none⟩ (.slice q m d)):=by
 have I:∀b,NotU32 (.bool b):=λ_ _ h=>by cases h
 have J:∀p n c,NotU32 (.slice p n c):=λ_ _ _ _ h=>by cases h
 have O:=Bc H ⟨g,k*5+1,none⟩ (.bool s) (I s);have U:=Bc O ⟨g,k*5+2,none⟩ (.slice p n c) (J _ _ _);have V:=Bc U ⟨g,k*5+3,none⟩ (.bool t) (I t);have Y:=Bc V ⟨g,k*5+4,none⟩ (.slice q m d) (J _ _ _);exact⟨Y,(((I32.putU H _ _).trans (I32.putU O _ _)).trans (I32.putU U _ _)).trans (I32.putU V _ _)⟩
theorem TRow.scl {J:Rat} {k:Nat} {r:List (Nat×Rat)} {w:World} {g:Nat} {x:Nat×Rat} (h:TRow (Ef J k r) w g) (hx:r[k]?=some x) {s t:Bool} {p q:Option Addr} {n c m d:Nat} (hq:Qs w s p n c t q m d (J*x.2)):
  TRow (Ef J (k+1) r) ((((w.setCell ⟨g,k*5+1,none⟩ (.bool s)).setCell ⟨g,k*5+2,none⟩ (.slice p n c)).setCell ⟨g,k*5+3,none⟩ (.bool t)).setCell ⟨g,k*5+4,none⟩ (.slice q m d)) g:=by
 obtain⟨s4,V⟩:=I32.putT (k:=k) h.stk s t p q n c m d
 have bB:k<r.length:=by
  rcases Nat.lt_or_ge k r.length with h|h
  ·exact h
  ·rw[List.getElem?_eq_none h]at hx;cases hx
 have U:∀k',(Ef J k' r).length=r.length:=λk'=>Hm J k' r
 refine⟨s4,λi Y=>At (At (At (At (h.free i (by rw[U]at Y ⊢;exact Y))))),λi Y=>Ah (Ah (Ah (Ah (h.has i (by rw[U]at Y ⊢;exact Y))))),λj y O=>?_⟩;rw[Eg]at O;have H:=h.val j;rw[Eg]at H;by_cases hjk:j=k
 ·subst hjk
  rw[hx]at O H;simp only[Option.map_some,kW,if_true]at O;injection O with O
  subst O;have h0:=(H _ rfl).1;have c0:=h.has (j*5+1) (by rw[U];omega);have c1:=Ah (R:=g) (i:=j*5+1) (u:=.bool s) (h.has (j*5+2) (by rw[U];omega));have c2:=Ah (R:=g) (i:=j*5+2) (u:=.slice p n c) (Ah (R:=g) (i:=j*5+1) (u:=.bool s) (h.has (j*5+3) (by rw[U];omega)));have c3:=Ah (R:=g) (i:=j*5+3) (u:=.bool t) (Ah (R:=g) (i:=j*5+2) (u:=.slice p n c) (Ah (R:=g) (i:=j*5+1) (u:=.bool s) (h.has (j*5+4) (by rw[U];omega))));refine⟨?_,s,p,n,c,t,q,m,d,?_,?_,?_,?_,hq.i32 V⟩
  ·rw[World.cell?_setCell_other _ _ _ _ (by simp),World.cell?_setCell_other _ _ _ _ (by simp),World.cell?_setCell_other _ _ _ _ (by simp),World.cell?_setCell_other _ _ _ _ (by simp)];exact h0
  ·rw[World.cell?_setCell_other _ _ _ _ (by simp),World.cell?_setCell_other _ _ _ _ (by simp),World.cell?_setCell_other _ _ _ _ (by simp),World.cell?_setCell_same' _ _ _ c0]
  ·rw[World.cell?_setCell_other _ _ _ _ (by simp),World.cell?_setCell_other _ _ _ _ (by simp),World.cell?_setCell_same' _ _ _ c1]
  ·rw[World.cell?_setCell_other _ _ _ _ (by simp),World.cell?_setCell_same' _ _ _ c2]
  ·rw[World.cell?_setCell_same' _ _ _ c3]
 ·have e:(r[j]?.map λy=>(y.1,if j<k+1 then J*y.2 else y.2))=r[j]?.map λy=>(y.1,if j<k then J*y.2 else y.2):=by
   have e1:(j<k+1)=(j<k):=propext ⟨λ_=>by omega,λ_=>by omega⟩;simp only[e1]
  have I:∀(i:Nat) (v:Value),j*5<=i->i<j*5+5->w.cell? ⟨g,i,none⟩=some v->((((w.setCell ⟨g,k*5+1,none⟩ (.bool s)).setCell ⟨g,k*5+2,none⟩ (.slice p n c)).setCell ⟨g,k*5+3,none⟩ (.bool t)).setCell ⟨g,k*5+4,none⟩ (.slice q m d)).cell? ⟨g,i,none⟩=some v:=by
   intro i v h1 h2 hv;rw[World.cell?_setCell_other _ _ _ _ (by simp <;> omega),World.cell?_setCell_other _ _ _ _ (by simp <;> omega),World.cell?_setCell_other _ _ _ _ (by simp <;> omega),World.cell?_setCell_other _ _ _ _ (by simp <;> omega)];exact hv
  obtain⟨e0,s',p',n',Z,t',q',m',d',e1,e2,e3,e4,e5⟩:=H y (by rw[<-e];exact O);exact⟨I _ _ (by omega) (by omega) e0,s',p',n',Z,t',q',m',d',I _ _ (by omega) (by omega) e1,I _ _ (by omega) (by omega) e2,I _ _ (by omega) (by omega) e3,I _ _ (by omega) (by omega) e4,e5.i32 V⟩
theorem TRow.elem {H:Rat} {k:Nat} {r:List (Nat×Rat)} {w:World} {g:Nat} {x:Nat×Rat} (h:TRow (Ef H k r) w g) (I:r[k]?=some x):TE x w g (k*5):=by
 refine h.val k x ?_;rw[Eg,I];simp
theorem Ut {w0 I H:World} {g k:Nat} {v0 v1 v2 v3:Value} (h:w0.grownBy I (some g)) (J:Below I.heap.size I H):w0.grownBy ((((H.setCell ⟨g,k*5+1,none⟩ v0).setCell ⟨g,k*5+2,none⟩ v1).setCell ⟨g,k*5+3,none⟩ v2).setCell ⟨g,k*5+4,none⟩ v3) (some g):=
 (h.trans (Af g J)).trans (Gt H g _ _ _ _ v0 v1 v2 v3)
theorem bJ:(prog.info? 107).map (λi=>(i.zero,i.size,i.bytes))=some (some (.slice none 0 0),1,24):=by kernel_rfl
theorem W8 {n i:Nat} {v:Value} (h:(madeCells #[.slice none 0 0] n)[i]?=some v):v=.slice none 0 0:=by
 unfold madeCells at h;simp only[Array.getElem?_map,Array.getElem?_range]at h;split at h
 ·simp only[Option.map_some]at h
  injection h with h
  rw[<-h];have H:i % 1=0:=Nat.mod_one i;show(#[.slice none 0 0]:Array Value)[i % 1]! = _;rw[H];rfl
 ·cases h
theorem iD (n:Nat) (h:n<=1000000) (w:World):
  (Instr.makeSlice 102 (.int .i64 (n:Int)) (.int .i64 (n:Int))).run prog w=.ok (.slice (some ⟨w.heap.size,0,none⟩) n n) (w.alloc (.cells (madeCells #[.slice none 0 0] n) 107)):=by
 obtain⟨i,O,H,I,J⟩:=info_parts bJ;have hr:=run_make (P:=prog) w 102 107 i _ underlying102 O H .i64 .i64 n n (by omega) (Int.le_refl _) (by rw[J];omega) (by omega);rw[Int.toNat_natCast,I,Nat.mul_one]at hr;exact hr
theorem LeadTab.made (w:World) (C:Nat):LeadTab (λ_=>[]) (w.alloc (.cells (madeCells #[.slice none 0 0] C) 107)) w.heap.size C (w.heap.size+1):=by
 have I:=Blk.new w 107 (madeCells #[.slice none 0 0] C)
 have J:∀i,i<C->(w.alloc (.cells (madeCells #[.slice none 0 0] C) 107)).cell? ⟨w.heap.size,i,none⟩=some (.slice none 0 0):=λi H=>by
  rw[I.cell_ i,Array.getElem?_eq_getElem (by rw[size_madeCells];exact H)];congr 1;exact W8 (Array.getElem?_eq_getElem (by rw[size_madeCells];exact H))
 refine⟨Stk.of I ?_,λi _=>I.free_ i,λj O=>⟨_,J j O,.inl ⟨rfl,_,_,rfl⟩,λ_=>rfl⟩⟩;intro v U;obtain⟨i,H⟩:=Array.getElem?_of_mem (Array.mem_toList_iff.1 U);rw[W8 H];exact⟨_,_,_,rfl⟩
/-! Lists of numbers -/
def OwnN (l:List Nat) (w:World) (B:Nat) (v:Value):Prop:=OwnK NotU32 w B 3 1 v l.length (l.map λn:Nat=>Value.int .i64 (n:Int))
theorem OwnN.nil (w:World) (B:Nat):OwnN [] w B (.slice none 0 0):=OwnK.nil _ _ _ _ _
theorem OwnN.keep {l:List Nat} {w w':World} {B:Nat} {v:Value} (h:OwnN l w B v) (H:Below w.heap.size w w'):OwnN l w' B v:=OwnK.keep h H
theorem OwnN.push {l:List Nat} {w':World} {B:Nat} {H:Value} {a:Nat} (h:OwnK NotU32 w' B 3 1 H (l.length+1) ((l.map λn:Nat=>Value.int .i64 (n:Int))++[.int .i64 (a:Int)])):OwnN (l++[a]) w' B H:=by
 unfold OwnN;rw[List.map_append,List.length_append];exact h
theorem Ep:(prog.info? 3).map (λi=>(i.zero,i.size,i.bytes))=some (some (.int .i64 0),1,8):=by kernel_rfl
def NL (l:List Nat) (w:World) (B:Nat) (v:Value):Prop:=(l=[]/\∃a c,v=.slice a 0 c)∨∃g cap,v=.slice (some ⟨g,0,none⟩) l.length cap/\l.length<=cap/\cap<=9223372036854775807/\g<B/\∀(j x:Nat),l[j]?=some x->w.cell? ⟨g,j,none⟩=some (.int .i64 (x:Int))
theorem NL.next {l:List Nat} {w w':World} {B:Nat} {v:Value} (h:NL l w B v) (I:Below B w w'):NL l w' B v:=by
 rcases h with h |⟨g,cap,e,J,H,hg,U⟩
 ·exact .inl h
 ·exact .inr ⟨g,cap,e,J,H,hg,λj x O=>(I.cell (p:=⟨g,j,none⟩) hg).trans (U j x O)⟩
theorem NL.up {l:List Nat} {w:World} {B B':Nat} {v:Value} (h:NL l w B v) (hB:B<=B'):NL l w B' v:=by
 rcases h with h |⟨g,cap,e,I,H,hg,J⟩
 ·exact .inl h
 ·exact .inr ⟨g,cap,e,I,H,kV hg hB,J⟩
theorem OwnN.nl {l:List Nat} {w:World} {B:Nat} {v:Value} (h:OwnN l w B v):NL l w w.heap.size v:=by
 rcases h.1.2 with⟨H,J⟩ |⟨g,cap,cs,H,hB,hg,V,I,U,_⟩
 ·exact .inl ⟨List.eq_nil_of_length_eq_zero J,_,_,H⟩
 ·have Y:=h.2 g (by rw[H];rfl)
  have O:=h.1;subst H;exact .inr ⟨g,cap,rfl,V,by simp only[maxLen]at I;omega,Y.1,λj x Z=>Aq O (by rw[List.getElem?_map,Z];rfl)⟩
theorem Bf {w:World} {B E J n:Nat} {v:Value} {O:List Value} (h:w.ownsRow B E J v n O):∃p c,v=.slice p n c:=by
 rcases h.2 with⟨H,I⟩ |⟨U,cap,cs,H,hB,_⟩
 ·exact⟨none,0,by rw[H,I]⟩
 ·exact⟨_,_,H⟩
theorem Ch {w:World} {B E I n g:Nat} {v:Value} {J:List Value} (h:w.ownsRow B E I v n J) (e:some g=v.ownBlock):B<=g:=by
 rcases h.2 with⟨H,_⟩ |⟨O,cap,cs,H,hB,_⟩
 ·rw[H]at e;simp[Value.ownBlock]at e
 ·rw[H]at e;simp[Value.ownBlock]at e;omega
/-! The rows of coordinates -/
structure RowTab (X:Nat->Nat->Rat) (N:Nat) (w:World) (GR C lo B:Nat):Prop where
 stk:Stk SliceV w GR
 free:∀i,i<C->w.frozen? ⟨GR,i,none⟩=false
 has:∀i,i<C->(w.cell? ⟨GR,i,none⟩).isSome=true
 val:∀j,lo<=j->j<C->∃g,w.cell? ⟨GR,j,none⟩=some (.slice (some ⟨g,0,none⟩) N N)/\g<B/\g≠GR/\∀i,i<N->QE (IsQ (X j i)) w g (i*4)
theorem QE.next {r:Rat} {w w':World} {B g i:Nat} (h:QE (IsQ r) w g i) (hg:g<B) (I:I32 w w') (Z:Below B w w'):QE (IsQ r) w' g i:=by
 have H:∀j v,w.cell? ⟨g,j,none⟩=some v->w'.cell? ⟨g,j,none⟩=some v:=λj v e=>(Z.cell (p:=⟨g,j,none⟩) hg).trans e
 obtain⟨s,p,n,c,t,q,m,d,J,O,U,V,Y⟩:=h;exact⟨s,p,n,c,t,q,m,d,H _ _ J,H _ _ O,H _ _ U,H _ _ V,Y.i32 I⟩
theorem RowTab.next {X:Nat->Nat->Rat} {N:Nat} {w w':World} {GR C lo B B':Nat} (h:RowTab X N w GR C lo B) (O:I32 w w') (H:Below B' w w') (J:GR<B') (hB:B<=B'):RowTab X N w' GR C lo B:=
 ⟨⟨kV h.stk.1 H.size,λi v Z=>h.stk.2 i v ((H.cell (p:=⟨GR,i,none⟩) J).symm.trans Z)⟩,
  λi I=>(World.frozen?_of_block (a:=⟨GR,i,none⟩) (H.block GR J)).trans (h.free i I),
  λi I=>by rw[H.cell (p:=⟨GR,i,none⟩) J];exact h.has i I,
  λj V Y=>by
   obtain⟨g,e,hg,U,hq⟩:=h.val j V Y;exact⟨g,(H.cell (p:=⟨GR,j,none⟩) J).trans e,hg,U,λi I=>(hq i I).next (kV hg hB) O H⟩⟩
theorem RowTab.up {X:Nat->Nat->Rat} {N:Nat} {w:World} {GR C lo B B':Nat} (h:RowTab X N w GR C lo B) (hB:B<=B'):RowTab X N w GR C lo B':=
 ⟨h.stk,h.free,h.has,λj I J=>by obtain⟨g,e,hg,H,hq⟩:=h.val j I J;exact⟨g,e,kV hg hB,H,hq⟩⟩
theorem RowTab.keep {X:Nat->Nat->Rat} {N:Nat} {w w':World} {GR C lo B:Nat} (h:RowTab X N w GR C lo B) (hB:B<=w.heap.size) (H:Below w.heap.size w w'):RowTab X N w' GR C lo B:=h.next (I32.below H) H h.stk.1 hB
theorem RowTab.put {X X':Nat->Nat->Rat} {N:Nat} {w:World} {GR C j B g:Nat} (h:RowTab X N w GR C (j+1) B) (hj:j<C) (hg:g<B) (U:g≠GR) (hq:∀i,i<N->QE (IsQ (X' j i)) w g (i*4)) (hX:∀H,j+1<=H->H<C->∀i,i<N->X' H i=X H i):
  RowTab X' N (w.setCell ⟨GR,j,none⟩ (.slice (some ⟨g,0,none⟩) N N)) GR C j B:=by
 have O:I32 w (w.setCell ⟨GR,j,none⟩ (.slice (some ⟨g,0,none⟩) N N)):=I32.putU (h.stk.imp λ_=>SliceV.notU32) j _;refine⟨Bc h.stk _ _ ⟨_,_,_,rfl⟩,λi I=>At (h.free i I),λi I=>Ah (h.has i I),λH h1 Z=>?_⟩;by_cases hjj:H=j
 ·subst hjj
  exact⟨g,World.cell?_setCell_same' _ _ _ (h.has H hj),hg,U,λi I=>(hq i I).butR O (Ai w GR H _) U⟩
 ·obtain⟨g',e,V,J,Y⟩:=h.val H (by omega) Z
  refine⟨g',?_,V,J,λi I=>by rw[hX H (by omega) Z i I];exact(Y i I).butR O (Ai w GR j _) J⟩;rw[World.cell?_setCell_other _ _ _ _ (by simp <;> omega)];exact e
theorem Hl:(prog.info? 30).map (λi=>(i.zero,i.size,i.bytes))=some (some (.slice none 0 0),1,24):=by kernel_rfl
theorem iF (n:Nat) (h:n<=1000000) (w:World):
  (Instr.makeSlice 104 (.int .i64 (n:Int)) (.int .i64 (n:Int))).run prog w=.ok (.slice (some ⟨w.heap.size,0,none⟩) n n) (w.alloc (.cells (madeCells #[.slice none 0 0] n) 30)):=by
 obtain⟨i,O,H,I,J⟩:=info_parts Hl;have hr:=run_make (P:=prog) w 104 30 i _ underlying104 O H .i64 .i64 n n (by omega) (Int.le_refl _) (by rw[J];omega) (by omega);rw[Int.toNat_natCast,I,Nat.mul_one]at hr;exact hr
theorem RowTab.made (X:Nat->Nat->Rat) (N:Nat) (w:World) (C:Nat):RowTab X N (w.alloc (.cells (madeCells #[.slice none 0 0] C) 30)) w.heap.size C C (w.heap.size+1):=by
 have H:=Blk.new w 30 (madeCells #[.slice none 0 0] C);refine⟨Stk.of H ?_,λi _=>H.free_ i,λi I=>?_,λj U J=>absurd J (by omega)⟩
 ·intro v O
  obtain⟨i,I⟩:=Array.getElem?_of_mem (Array.mem_toList_iff.1 O);rw[W8 I];exact⟨_,_,_,rfl⟩
 ·rw[H.cell_ i,Array.getElem?_eq_getElem (by rw[size_madeCells];exact I)];rfl
structure ModAt (w:World) (M B:Nat) (N k D:Int) (F:List Nat) (C:Nat) (X:Nat->Nat->Rat):Prop where
 lt:M<B
 c0:w.cell? ⟨M,0,none⟩=some (.int .i64 N)
 c1:w.cell? ⟨M,1,none⟩=some (.int .i64 k)
 c2:w.cell? ⟨M,2,none⟩=some (.int .i64 D)
 c3:∃v,w.cell? ⟨M,3,none⟩=some v/\NL F w B v
 c4:∃GR,w.cell? ⟨M,4,none⟩=some (.slice (some ⟨GR,0,none⟩) C C)/\GR<B/\∀j,j<C->∃g,w.cell? ⟨GR,j,none⟩=some (.slice (some ⟨g,0,none⟩) F.length F.length)/\g<B/\∀i f,F[i]?=some f->QE (IsQ (X j f)) w g (i*4)
theorem ModAt.next {w w':World} {M B B':Nat} {N k D:Int} {F:List Nat} {C:Nat} {X:Nat->Nat->Rat} (h:ModAt w M B N k D F C X) (I:I32 w w') (J:Below B' w w') (hB:B<=B'):ModAt w' M B N k D F C X:=by
 have H:∀g i v,g<B->w.cell? ⟨g,i,none⟩=some v->w'.cell? ⟨g,i,none⟩=some v:=λg i v hg e=>(J.cell (p:=⟨g,i,none⟩) (kV hg hB)).trans e
 obtain⟨v,U,Y⟩:=h.c3;obtain⟨GR,V,O,Z⟩:=h.c4;refine⟨h.lt,H _ _ _ h.lt h.c0,H _ _ _ h.lt h.c1,H _ _ _ h.lt h.c2,⟨v,H _ _ _ h.lt U,Y.next (J.mono hB)⟩,GR,H _ _ _ h.lt V,O,λj hj=>?_⟩;obtain⟨g,e,hg,hq⟩:=Z j hj;exact⟨g,H _ _ _ O e,hg,λi f hf=>(hq i f hf).next (kV hg hB) I J⟩
theorem ModAt.keep {w w':World} {M B:Nat} {N k D:Int} {F:List Nat} {C:Nat} {X:Nat->Nat->Rat} (h:ModAt w M B N k D F C X) (hB:B<=w.heap.size) (H:Below w.heap.size w w'):ModAt w' M B N k D F C X:=h.next (I32.below H) H hB
theorem ModAt.up {w:World} {M B B':Nat} {N k D:Int} {F:List Nat} {C:Nat} {X:Nat->Nat->Rat} (h:ModAt w M B N k D F C X) (hB:B<=B'):ModAt w M B' N k D F C X:=by
 obtain⟨v,H,J⟩:=h.c3;obtain⟨GR,I,U,O⟩:=h.c4;exact⟨kV h.lt hB,h.c0,h.c1,h.c2,⟨v,H,J.up hB⟩,GR,I,kV U hB,λj V=>by obtain⟨g,e,hg,hq⟩:=O j V;exact⟨g,e,kV hg hB,hq⟩⟩
def RowV (f:Nat->Rat) (N:Nat) (w:World) (v:Value):Prop:=(∃p c,v=.slice p N c)/\QL (λq=>IsQ (f q)) w v N
theorem RowV.keep {f:Nat->Rat} {N:Nat} {w w':World} {v:Value} (h:RowV f N w v) (H:Below w.heap.size w w'):RowV f N w' v:=⟨h.1,h.2.keep (λ_=>IsQ.solid _) H⟩
theorem RowV.congr {f g:Nat->Rat} {N:Nat} {w:World} {v:Value} (h:RowV f N w v) (O:∀q,q<N->g q=f q):RowV g N w v:=by
 refine⟨h.1,?_⟩;rcases h.2 with I |⟨b,o,cap,e,J,hq⟩
 ·exact .inl I
 ·exact .inr ⟨b,o,cap,e,J,λj H=>by
   show QE (IsQ (g j)) w b (o+j*4);rw[O j H];exact hq j H⟩
theorem RowV.but {f:Nat->Rat} {N:Nat} {w w':World} {v:Value} {R:Nat} (h:RowV f N w v) (hs:Stk SliceV w R) (hg:w.grownBy w' (some R)) (H:I32 w w'):RowV f N w' v:=by
 refine⟨h.1,?_⟩;rcases h.2 with V |⟨b,o,cap,e,Z,hq⟩
 ·exact .inl V
 ·refine .inr ⟨b,o,cap,e,kV Z hg.size,λj hj=>?_⟩
  have O:=hq j hj
  have I:b≠R:=λU=>by
   obtain⟨s,p,n,c,t,q,m,d,J,_⟩:=O;rw[U]at J;obtain⟨p',n',c',Y⟩:=hs.2 _ _ J;cases Y
  exact O.butR H hg I
theorem RowV.grown {f:Nat->Rat} {N:Nat} {w w':World} {v:Value} {o:Option Nat} (h:RowV f N w v) (hs:∀R,o=some R->Stk SliceV w R) (hg:w.grownBy w' o) (J:I32 w w'):RowV f N w' v:=by
 refine⟨h.1,?_⟩;rcases h.2 with Y |⟨b,o',cap,e,hb,hq⟩
 ·exact .inl Y
 ·refine .inr ⟨b,o',cap,e,kV hb hg.size,λj hj=>?_⟩
  obtain⟨s,p,n,c,t,q,m,d,O,I,U,V,h4⟩:=hq j hj
  have H:some b≠o:=λI=>by
   obtain⟨p',n',c',Z⟩:=(hs b I.symm).2 _ _ O;cases Z
  exact⟨s,p,n,c,t,q,m,d,hg.cell O H,hg.cell I H,hg.cell U H,hg.cell V H,h4.i32 J⟩
def GridL (l:List (Nat->Rat)) (N:Nat) (w:World) (v:Value):Prop:=
 (l=[]/\∃p c,v=.slice p 0 c)∨∃g o cap,v=.slice (some ⟨g,o,none⟩) l.length cap/\g<w.heap.size/\Stk SliceV w g/\∀(j:Nat) x,l[j]?=some x->∃vr,w.cell? ⟨g,o+j,none⟩=some vr/\RowV x N w vr
theorem Stk.keep {K:Value->Prop} {w w':World} {g:Nat} (h:Stk K w g) (H:Below w.heap.size w w'):Stk K w' g:=⟨kV h.1 H.size,λi v I=>h.2 i v ((H.cell (p:=⟨g,i,none⟩) h.1).symm.trans I)⟩
theorem GridL.keep {l:List (Nat->Rat)} {N:Nat} {w w':World} {v:Value} (h:GridL l N w v) (H:Below w.heap.size w w'):GridL l N w' v:=by
 rcases h with h |⟨g,o,cap,e,hg,U,V⟩
 ·exact .inl h
 ·refine .inr ⟨g,o,cap,e,kV hg H.size,U.keep H,λj x O=>?_⟩
  obtain⟨vr,I,J⟩:=V j x O;exact⟨vr,(H.cell (p:=⟨g,o+j,none⟩) hg).trans I,J.keep H⟩
theorem GridL.val {l:List (Nat->Rat)} {N:Nat} {w:World} {v:Value} (h:GridL l N w v):∃p c,v=.slice p l.length c:=by
 rcases h with⟨rfl,h⟩ |⟨g,o,cap,e,_⟩
 ·exact h
 ·exact⟨_,_,e⟩
def OwnG (l:List (Nat->Rat)) (N:Nat) (w:World) (B:Nat) (v:Value):Prop:=∃xs,OwnK SliceV w B 30 1 v l.length xs/\∀(j:Nat) x,l[j]?=some x->∃vr,xs[j]?=some vr/\RowV x N w vr
theorem OwnG.nil (N:Nat) (w:World) (B:Nat):OwnG [] N w B (.slice none 0 0):=⟨[],OwnK.nil _ _ _ _ _,λj x H=>by simp at H⟩
theorem OwnG.keep {l:List (Nat->Rat)} {N:Nat} {w w':World} {B:Nat} {v:Value} (h:OwnG l N w B v) (H:Below w.heap.size w w'):OwnG l N w' B v:=by
 obtain⟨U,I,J⟩:=h;exact⟨U,I.keep H,λj x O=>by obtain⟨vr,e,hr⟩:=J j x O;exact⟨vr,e,hr.keep H⟩⟩
theorem I32.grownS {w w':World} {B E I n:Nat} {v:Value} {J:List Value} (h:OwnK SliceV w B E I v n J) (hg:w.grownBy w' v.ownBlock):I32 w w':=I32.grown (K:=SliceV) (λ_ H=>by obtain⟨p,n,c,e⟩:=H;cases e) h.2 hg
theorem OwnG.push {l:List (Nat->Rat)} {N:Nat} {W w':World} {B:Nat} {v Y:Value} {I:List Value} (J:OwnK SliceV W B 30 1 v l.length I) (Z:∀(j:Nat) x,l[j]?=some x->∃vr,I[j]?=some vr/\RowV x N W vr)
  {f:Nat->Rat} {vf:Value} (hf:RowV f N W vf) (h3:OwnK SliceV w' B 30 1 Y (l.length+1) (I++[vf])) (hg:W.grownBy w' v.ownBlock):OwnG (l++[f]) N w' B Y:=by
 have O:=I32.grownS J hg;have hl:I.length=l.length:=by have:=J.1.1;omega
 have V:∀(x:Nat->Rat) vr,RowV x N W vr->RowV x N w' vr:=λx vr h=>h.grown (λR e=>J.2 R e) hg O
 refine⟨I++[vf],by rw[List.length_append];exact h3,λj x H=>?_⟩;by_cases hj:j<l.length
 ·rw[List.getElem?_append_left hj]at H
  obtain⟨vr,e,hr⟩:=Z j x H;exact⟨vr,N9 e,V _ _ hr⟩
 ·rw[List.getElem?_append_right (by omega)]at H
  have U:j=l.length:=by
   rcases Nat.eq_zero_or_pos (j - l.length)with h|h
   ·omega
   ·rw[List.getElem?_eq_none (by rw[List.length_singleton];omega)]at H;cases H
  subst U;rw[Nat.sub_self]at H;injection H with H
  subst H;exact⟨vf,by rw[List.getElem?_append_right (by omega),hl,Nat.sub_self];rfl,V _ _ hf⟩
structure GRow (l:List (Nat->Rat)) (N:Nat) (w:World) (g:Nat):Prop where
 stk:Stk SliceV w g
 free:∀i,w.frozen? ⟨g,i,none⟩=false
 val:∀(j:Nat) x,l[j]?=some x->∃vr,w.cell? ⟨g,j,none⟩=some vr/\RowV x N w vr
theorem OwnG.row {l:List (Nat->Rat)} {N:Nat} {w:World} {B:Nat} {v:Value} (h:OwnG l N w B v):(l=[]/\v=.slice none 0 0)∨∃g cap,v=.slice (some ⟨g,0,none⟩) l.length cap/\l.length<=cap/\cap<=9223372036854775807/\B<=g/\g<w.heap.size/\GRow l N w g:=by
 obtain⟨xs,I,V⟩:=h;rcases I.1.2 with⟨H,U⟩ |⟨g,cap,cs,H,hB,hg,Z,J,Y,_⟩
 ·exact .inl ⟨List.eq_nil_of_length_eq_zero U,H⟩
 ·right
  have O:=I.2 g (by rw[H];rfl);subst H;refine⟨g,cap,rfl,Z,by simp only[maxLen]at J;omega,hB,O.1,⟨O,λi=>Blk.free_ hg i,λj x hx=>?_⟩⟩;obtain⟨vr,e,hr⟩:=V j x hx;exact⟨vr,Aq I.1 e,hr⟩
theorem OwnG.gl {l:List (Nat->Rat)} {N:Nat} {w:World} {B:Nat} {v:Value} (h:OwnG l N w B v):GridL l N w v:=by
 rcases h.row with⟨rfl,rfl⟩ |⟨g,cap,rfl,_,_,_,I,H⟩
 ·exact .inl ⟨rfl,_,_,rfl⟩
 ·exact .inr ⟨g,0,cap,rfl,I,H.stk,λj x J=>by rw[Nat.zero_add];exact H.val j x J⟩
theorem Xq {w:World} {B E g n cap i:Nat} {J:List Value} (h:w.ownsRow B E 1 (.slice (some ⟨g,0,none⟩) n cap) n J) (u:Value):(w.setCell ⟨g,i,none⟩ u).ownsRow B E 1 (.slice (some ⟨g,0,none⟩) n cap) n (J.set i u):=by
 obtain⟨O,h⟩:=h;rcases h with⟨V,_⟩ |⟨g',I,H,U,hB,hg,Z,Y,hs,ht⟩
 ·cases V
 ·cases U
  refine⟨by rw[List.length_set];exact O,.inr ⟨g,cap,H.setIfInBounds i u,rfl,hB,?_,Z,Y,by rw[Array.size_setIfInBounds];exact hs,?_⟩⟩
  ·simp[World.setCell,Array.getElem?_modify,hg]
  ·rw[Array.toList_setIfInBounds,List.take_set,ht]
theorem OwnG.set {l:List (Nat->Rat)} {N:Nat} {w:World} {B i:Nat} {f:Nat->Rat} {g cap:Nat} {p:Option Addr} {c:Nat} (h:OwnG l N w B (.slice (some ⟨g,0,none⟩) l.length cap)) (hi:i<l.length) (hf:RowV f N w (.slice p N c)):
  OwnG (l.set i f) N (w.setCell ⟨g,i,none⟩ (.slice p N c)) B (.slice (some ⟨g,0,none⟩) l.length cap):=by
 obtain⟨U,O,Z⟩:=h;have hl:U.length=l.length:=by have:=O.1.1;omega
 have H:=O.2 g rfl;have hg:=Ai w g i (.slice p N c);have J:I32 w (w.setCell ⟨g,i,none⟩ (.slice p N c)):=I32.putU (H.imp λ_=>SliceV.notU32) i _;refine⟨U.set i (.slice p N c),?_,λj x I=>?_⟩
 ·rw[List.length_set]
  refine⟨Xq O.1 _,λY e=>?_⟩;have V:g=Y:=by simpa [Value.ownBlock] using e
  subst V;exact Bc H _ _ ⟨_,_,_,rfl⟩
 ·by_cases hj:j=i
  ·subst hj
   rw[List.getElem?_set_self hi]at I;injection I with I
   subst I;exact⟨_,List.getElem?_set_self (by omega),hf.but H hg J⟩
  ·rw[List.getElem?_set_ne (λe=>hj e.symm)]at I
   obtain⟨vr,e,hr⟩:=Z j x I;exact⟨vr,by rw[List.getElem?_set_ne (λe=>hj e.symm)];exact e,hr.but H hg J⟩
end
theorem jD (a b:Nat):∃x y:Int,(a:Int)*x+b*y=(Nat.gcd a b:Int):=by
 induction a,b using Nat.gcd.induction with
 | H0 n=>exact⟨0,1,by simp⟩
 | H1 m n hm ih=>
  obtain⟨x,y,h⟩:=ih;refine⟨y - (n / m:Nat)*x,x,?_⟩;rw[Nat.gcd_rec m n,<-h]
  have e:(n:Int)=((n % m:Nat):Int)+m*((n / m:Nat):Int):=by
   have:=Nat.mod_add_div n m
   exact_mod_cast this.symm
  conv=>lhs;rw[e]
  rw[Int.mul_sub,Int.add_mul,<-Int.mul_assoc];grind
theorem Kx (n s:Nat) (V:0<n) (h:Nat.gcd s n=1):∃r,1<=r/\r<=n/\Nat.gcd r n=1/\r*s % n=1 % n:=by
 obtain⟨x,y,e⟩:=jD s n;rw[h]at e;have U:=Int.emod_nonneg x (show(n:Int)≠0 by omega);have Y:=Int.emod_lt_of_pos x (show(0:Int)<n by omega)
 have J:∀r:Nat,(r:Int) % n=x % n->r*s % n=1 % n:=by
  intro r hr
  have O:((r*s:Nat):Int) % n=((1:Nat):Int) % n:=by
   rw[show((r*s:Nat):Int)=(r:Int)*s by push_cast;rfl,Int.mul_emod,hr,<-Int.mul_emod,<-Int.add_mul_emod_self_left (x*s) n y,Int.mul_comm x,e]
  exact_mod_cast O
 have H:∀r:Nat,r*s % n=1 % n->Nat.gcd r n=1:=by
  intro r hr;have O:Nat.gcd r n∣r*s % n:=(Nat.dvd_mod_iff (Nat.gcd_dvd_right r n)).2 (Nat.dvd_trans (Nat.gcd_dvd_left r n) (Nat.dvd_mul_right r s));rw[hr]at O;exact Nat.dvd_one.1 ((Nat.dvd_mod_iff (Nat.gcd_dvd_right r n)).1 O)
 by_cases h0:(x % n).toNat=0
 ·have I:=J n (by rw[Int.emod_self];omega)
  exact⟨n,V,Nat.le_refl _,H n I,I⟩
 ·have I:=J (x % n).toNat (by rw[Int.toNat_of_nonneg U,Int.emod_emod])
  exact⟨(x % n).toNat,by omega,by omega,H _ I,I⟩
def Az (n s k:Nat):Nat:=s*(k / n) % n*n+s*(k % n) % n
def E4 (n k:Nat):Bool:=Nat.gcd (Nat.gcd (k / n) (k % n)) n==1
def pun (n s:Nat):Bool:=Nat.gcd s n==1
def Cm (n:Nat) (l:List Nat) (k:Nat):Bool:=l.any λa=>(List.range n).any λi=>pun n (i+1)&&Az n (i+1) a==k
def pts (n:Nat):Nat->List Nat
 | 0=>[]
 | k+1=>if E4 n k && !Cm n (pts n k) k then pts n k++[k]else pts n k
theorem Cn (n k:Nat):pts n (k+1)=if E4 n k && !Cm n (pts n k) k then pts n k++[k]else pts n k:=rfl
theorem B6 (n k:Nat):(pts n k).length<=k:=by
 induction k with
 | zero=>exact Nat.le_refl _
 | succ k ih=>
  rw[Cn];split
  ·rw[List.length_append];simp;exact ih
  ·omega
def Fj (n k:Nat):Bool:=(List.range n).all λi=>!pun n (i+1)||decide (k<=Az n (i+1) k)
theorem C6 {n:Nat} (H:0<n) (s k:Nat):Az n s k / n=s*(k / n) % n:=by
 unfold Az;rw[Nat.mul_comm,Nat.mul_add_div H,Nat.div_eq_of_lt (Nat.mod_lt _ H),Nat.add_zero]
theorem C7 (n s k:Nat):Az n s k % n=s*(k % n) % n:=by
 unfold Az;rw[Nat.mul_comm,Nat.mul_add_mod,Nat.mod_mod]
theorem Su {n:Nat} (H:0<n) (s k:Nat):Az n s k<n*n:=by
 have I:=Nat.mod_lt (s*(k / n)) H;have J:=Nat.mod_lt (s*(k % n)) H;unfold Az
 calc s*(k / n) % n*n+s*(k % n) % n<s*(k / n) % n*n+n:=by omega
  _=(s*(k / n) % n+1)*n:=by rw[Nat.add_mul,Nat.one_mul]
  _<=n*n:=Nat.mul_le_mul_right _ I
theorem Fz {n:Nat} (J:0<n) (s t k:Nat):Az n s (Az n t k)=Az n (s*t) k:=by
 have H:=C6 J t k;have I:=C7 n t k;unfold Az at H I ⊢;rw[H,I];rw[Nat.mul_mod_mod,Nat.mul_mod_mod,<-Nat.mul_assoc,<-Nat.mul_assoc]
theorem Es {n s t:Nat} (h:s % n=t % n) (k:Nat):Az n s k=Az n t k:=by
 unfold Az;rw[Nat.mul_mod s,h,<-Nat.mul_mod,Nat.mul_mod s (k % n),h,<-Nat.mul_mod]
theorem Ko {n k:Nat} (H:k<n*n):Az n 1 k=k:=by
 have I:0<n:=by
  rcases Nat.eq_zero_or_pos n with h|h
  ·subst h;simp at H
  ·exact h
 unfold Az;rw[Nat.one_mul,Nat.one_mul,Nat.mod_mod,Nat.mod_eq_of_lt (Nat.div_lt_of_lt_mul H),Nat.mul_comm,Nat.div_add_mod]
theorem Jd {n s t:Nat} (H:pun n s=true) (I:pun n t=true):pun n (s*t)=true:=by
 unfold pun at *;simp only[beq_iff_eq]at *;exact Nat.Coprime.mul_left H I
theorem Ee {n s:Nat} (I:0<n) (J:pun n s=true):∃r,1<=r/\r<=n/\pun n r=true/\r % n=s % n:=by
 unfold pun at *;simp only[beq_iff_eq]at *;have H:Nat.gcd (s % n) n=1:=by rw[<-Nat.gcd_rec,Nat.gcd_comm];exact J
 by_cases h0:s % n=0
 ·rw[h0,Nat.gcd_zero_left]at H
  exact⟨n,I,Nat.le_refl _,by rw[Nat.gcd_self];exact H,by rw[Nat.mod_self,h0]⟩
 ·exact⟨s % n,by omega,Nat.le_of_lt (Nat.mod_lt _ I),H,Nat.mod_mod _ _⟩
theorem bF {n s:Nat} (U:0<n) (V:pun n s=true):∃r,1<=r/\r<=n/\pun n r=true/\r*s % n=1 % n:=by
 obtain⟨r,H,I,J,O⟩:=Kx n s U (by simpa [pun] using V);exact⟨r,H,I,by simp[pun,J],O⟩
theorem Hh {n s k:Nat} (H:k<n*n) (Y:pun n s=true):∃r,1<=r/\r<=n/\pun n r=true/\Az n r (Az n s k)=k:=by
 have I:0<n:=by
  rcases Nat.eq_zero_or_pos n with h|h
  ·subst h;simp at H
  ·exact h
 obtain⟨r,J,O,U,V⟩:=bF I Y;exact⟨r,J,O,U,by rw[Fz I,Es V,Ko H]⟩
theorem bD {n s k:Nat} (V:0<n) (Y:pun n s=true) (U:E4 n k=true):E4 n (Az n s k)=true:=by
 unfold E4 pun at *;simp only[beq_iff_eq]at *;rw[C6 V,C7 n];generalize k / n=u at *;generalize k % n=v at *;refine Nat.dvd_one.1 ?_
 have O:∀g,g∣s*u % n->g∣s*v % n->g∣n->g∣1:=by
  intro g H I J;have H:=(Nat.dvd_mod_iff J).1 H;have I:=(Nat.dvd_mod_iff J).1 I
  have hg:Nat.Coprime g s:=by
   have:Nat.gcd g s∣Nat.gcd s n:=Nat.dvd_gcd (Nat.gcd_dvd_right g s) (Nat.dvd_trans (Nat.gcd_dvd_left g s) J);rw[Y]at this;exact Nat.dvd_one.1 this
  have H:=Nat.Coprime.dvd_of_dvd_mul_left hg H;have I:=Nat.Coprime.dvd_of_dvd_mul_left hg I;rw[<-U];exact Nat.dvd_gcd (Nat.dvd_gcd H I) J
 exact O _ (Nat.dvd_trans (Nat.gcd_dvd_left _ _) (Nat.gcd_dvd_left _ _)) (Nat.dvd_trans (Nat.gcd_dvd_left _ _) (Nat.gcd_dvd_right _ _)) (Nat.gcd_dvd_right _ _)
theorem Cl {n k:Nat}:Fj n k=true↔∀s,1<=s->s<=n->pun n s=true->k<=Az n s k:=by
 unfold Fj;simp only[List.all_eq_true,List.mem_range,Bool.or_eq_true,Bool.not_eq_true',decide_eq_true_eq];constructor
 ·intro h s I J H
  have:=h (s - 1) (by omega);rw[show s - 1+1=s by omega,H]at this
  simpa using this
 ·intro h i O
  cases hu:pun n (i+1)with
  | false=>exact .inl rfl
  | true=>exact .inr (h (i+1) (by omega) (by omega) hu)
theorem Ie {n:Nat} {l:List Nat} {k:Nat}:Cm n l k=true↔∃a,a∈l/\∃s,1<=s/\s<=n/\pun n s=true/\Az n s a=k:=by
 unfold Cm;simp only[List.any_eq_true,List.mem_range,Bool.and_eq_true,beq_iff_eq];constructor
 ·rintro⟨a,H,i,U,I,e⟩
  exact⟨a,H,i+1,by omega,by omega,I,e⟩
 ·rintro⟨a,H,s,J,O,I,e⟩
  exact⟨a,H,s - 1,by omega,by rw[show s - 1+1=s by omega];exact I,by rw[show s - 1+1=s by omega];exact e⟩
theorem Gn {n:Nat}:∀{k a:Nat},a∈pts n k->a<k:=by
 intro k;induction k with
 | zero=>intro a h;simp[pts]at h
 | succ k ih=>
  intro a h;rw[Cn]at h;split at h
  ·rcases List.mem_append.1 h with h|h
   ·have:=ih h;omega
   ·simp at h;omega
  ·have:=ih h;omega
theorem Kp {n a:Nat} {k m:Nat} (H:k<=m) (h:a∈pts n k):a∈pts n m:=by
 induction m with
 | zero=>have:k=0:=by omega
         subst this;exact h
 | succ m ih=>
  by_cases e:k=m+1
  ·subst e;exact h
  ·have:=ih (by omega)
   rw[Cn];split
   ·exact List.mem_append_left _ this
   ·exact this
theorem Ig {n:Nat}:∀{k a:Nat},a∈pts n k->E4 n a=true/\Cm n (pts n a) a=false:=by
 intro k;induction k with
 | zero=>intro a h;simp[pts]at h
 | succ k ih=>
  intro a h;rw[Cn]at h;split at h
  ·rename_i hc
   rcases List.mem_append.1 h with h|h
   ·exact ih h
   ·simp at h hc;subst h;exact hc
  ·exact ih h
theorem Sy {n k:Nat} (H:E4 n k=true) (I:Cm n (pts n k) k=false):k∈pts n (k+1):=by
 rw[Cn];rw[if_pos (by rw[H,I];rfl)];simp
theorem Un {n:Nat} (hn:0<n):∀k,k<n*n->E4 n k=true->(Cm n (pts n k) k=false↔Fj n k=true):=by
 intro k;induction k using Nat.strongRecOn with
 | _ k ih=>
  intro hk aT;constructor
  ·intro h
   rw[Cl];intro s h1 h2 hu;rcases Nat.lt_or_ge (Az n s k) k with hlt|aD
   ·exfalso
    have hP:∃m,∃t,1<=t/\t<=n/\pun n t=true/\Az n t k=m:=⟨_,s,h1,h2,hu,rfl⟩
    have Y:∀m,(∃t,1<=t/\t<=n/\pun n t=true/\Az n t k=m)->m<k->False:=by
     intro m;induction m using Nat.strongRecOn with
     | _ m ihm=>
      rintro⟨t,t1,t2,tu,e⟩ hm;have aJ:m<n*n:=by omega
      by_cases O:Fj n m=true
      ·have Z:E4 n m=true:=by rw[<-e];exact bD hn tu aT
       have aK:=(ih m hm aJ Z).2 O;have V:=Kp (m:=k) hm (Sy Z aK);obtain⟨r,I,J,H,re⟩:=Hh (k:=k) hk tu;have:Cm n (pts n k) k=true:=Ie.2 ⟨m,V,r,I,J,H,by rw[<-e];exact re⟩;rw[this]at h;cases h
      ·rw[Cl]at O
       have:∃r,1<=r/\r<=n/\pun n r=true/\Az n r m<m:=by
        refine Classical.byContradiction λaN=>O λr I J H=>?_
        exact Nat.le_of_not_lt λhlt=>aN ⟨r,I,J,H,hlt⟩
       obtain⟨r,I,J,H,U⟩:=this;obtain⟨q,q1,q2,qu,qe⟩:=Ee hn (Jd H tu);refine ihm (Az n r m) U ⟨q,q1,q2,qu,?_⟩ (by omega);rw[Es qe,<-Fz hn,e]
    exact Y _ ⟨s,h1,h2,hu,rfl⟩ hlt
   ·exact aD
  ·intro O
   cases h:Cm n (pts n k) k with
   | false=>rfl
   | true=>
    exfalso;obtain⟨a,ha,s,s1,s2,su,e⟩:=Ie.1 h;have cA:=Gn ha;obtain⟨r,I,J,H,re⟩:=Hh (k:=a) (by omega) su;rw[e]at re;have:=Cl.1 O r I J H;omega
theorem B5 {n:Nat} (H:0<n):∀k,k<=n*n->pts n k=(List.range k).filter λa=>E4 n a&&Fj n a:=by
 intro k;induction k with
 | zero=>intro _;rfl
 | succ k ih=>
  intro I;rw[List.range_succ,List.filter_append,<-ih (by omega)];rw[Cn];cases hok:E4 n k with
  | false=>simp[hok]
  | true=>
   have h:=Un H k (by omega) hok;cases hl:Fj n k with
   | false=>
    have:Cm n (pts n k) k=true:=by
     cases hs:Cm n (pts n k) k with
     | true=>rfl
     | false=>rw[h.1 hs]at hl;cases hl
    simp[hok,hl,this]
   | true=>
    have:Cm n (pts n k) k=false:=h.2 hl;simp[hok,hl,this]
theorem Q9 {n a b s:Nat} (H:a∈pts n (n*n)) (I:b∈pts n (n*n)) (O:pun n s=true) (e:Az n s a=b):a=b:=by
 have J:0<n:=by
  rcases Nat.eq_zero_or_pos n with h|h
  ·subst h;simp[pts]at H
  ·exact h
 rw[B5 J _ (Nat.le_refl _)]at H I;simp only[List.mem_filter,List.mem_range,Bool.and_eq_true]at H I;obtain⟨s',s1,s2,su,se⟩:=Ee J O;have U:=Cl.1 H.2.2 s' s1 s2 su;rw[Es se,e]at U;obtain⟨r,V,Y,ru,Z⟩:=Hh (k:=a) H.1 O;rw[e]at Z;have h2:=Cl.1 I.2.2 r V Y ru;omega
theorem Um {n s t k:Nat} (Y:0<n) (O:E4 n k=true) (e:Az n s k=Az n t k):s % n=t % n:=by
 have e1:s*(k / n) % n=t*(k / n) % n:=by rw[<-C6 Y,<-C6 Y,e]
 have e2:s*(k % n) % n=t*(k % n) % n:=by rw[<-C7 n,<-C7 n,e]
 unfold E4 at O;simp only[beq_iff_eq]at O;generalize k / n=u at *;generalize k % n=v at *;obtain⟨x,y,h1⟩:=jD u v;obtain⟨z,q,V⟩:=jD (Nat.gcd u v) n;rw[O]at V
 have H:((n:Int))∣(s:Int)*u - t*u:=by
  apply Int.dvd_of_emod_eq_zero;rw[Int.sub_emod];have:((s:Int)*u) % n=((t:Int)*u) % n:=by exact_mod_cast e1
  rw[this];simp
 have I:((n:Int))∣(s:Int)*v - t*v:=by
  apply Int.dvd_of_emod_eq_zero;rw[Int.sub_emod];have:((s:Int)*v) % n=((t:Int)*v) % n:=by exact_mod_cast e2
  rw[this];simp
 obtain⟨c1,H⟩:=H;obtain⟨c2,I⟩:=I
 have aN:(s:Int) - t=n*((c1*x+c2*y)*z+(s - t)*q):=by
  have Z:((s:Int) - t)*u=n*c1:=by rw[Int.sub_mul];exact H
  have h:((s:Int) - t)*v=n*c2:=by rw[Int.sub_mul];exact I
  have a3:((s:Int) - t)*(Nat.gcd u v:Int)=n*(c1*x+c2*y):=by
   rw[<-h1,Int.mul_add,<-Int.mul_assoc,<-Int.mul_assoc,Z,h,Int.mul_add,Int.mul_assoc,Int.mul_assoc]
  have U:((s:Int) - t)*1=n*(c1*x+c2*y)*z+n*((s - t)*q):=by
   have J:((Nat.gcd u v:Nat):Int)*z+n*q=1:=by exact_mod_cast V
   rw[<-J,Int.mul_add,<-Int.mul_assoc,a3];congr 1;rw[Int.mul_left_comm]
  rw[Int.mul_one]at U;refine U.trans ?_;rw[Int.mul_add (n:Int) ((c1*x+c2*y)*z),Int.mul_assoc]
 have:(s:Int) % n=(t:Int) % n:=by
  rw[show(s:Int)=t+n*((c1*x+c2*y)*z+(s - t)*q)by omega,Int.add_mul_emod_self_left]
 exact_mod_cast this
def Pv (f:Nat->Nat×Int) (k:Nat) (x:Nat×Int):Nat->Nat×Int:=λi=>if i=k then x else f i
def Ez (n l:Nat) (c:Int) (L:List Nat):Nat->(Nat->Nat×Int)->(Nat->Nat×Int)
 | 0,f=>f
 | j+1,f=>Pv (Ez n l c L j f) (Az n l (L.getD j 0)) (j,c)
def Bb (n:Nat) (D:Int) (L:List Nat):Nat->(Nat->Nat×Int)
 | 0=>λ_=>(0,0)
 | l+1=>if pun n (l+1)then Ez n (l+1) (Pl.kroP D (l+1)) L L.length (Bb n D L l)else Bb n D L l
def TabOk (m:Nat) (f:Nat->Nat×Int):Prop:=∀k,f k=(0,0)∨(f k).1<m/\((f k).2=0∨(f k).2=1∨(f k).2=-1)
theorem TabOk.set {m:Nat} {f:Nat->Nat×Int} (h:TabOk m f) (k:Nat) (x:Nat×Int) (I:x.1<m) (H:x.2=0∨x.2=1∨x.2=-1):TabOk m (Pv f k x):=by
 intro i;unfold Pv;split
 ·exact .inr ⟨I,H⟩
 ·exact h i
theorem Xt {n l:Nat} {c:Int} {L:List Nat} (H:c=0∨c=1∨c=-1) {f:Nat->Nat×Int} (h:TabOk L.length f):∀j,j<=L.length->TabOk L.length (Ez n l c L j f):=by
 intro j;induction j with
 | zero=>intro _;exact h
 | succ j ih=>intro I;exact(ih (by omega)).set _ _ (by exact I) H
theorem Fi {n:Nat} {D:Int} {L:List Nat} (H:∀l,Pl.kroP D l=0∨Pl.kroP D l=1∨Pl.kroP D l=-1):∀l,TabOk L.length (Bb n D L l):=by
 intro l;induction l with
 | zero=>intro k;exact .inl rfl
 | succ l ih=>
  unfold Bb;split
  ·exact Xt (H _) ih _ (kT _)
  ·exact ih
abbrev M4:=Int×Int×Int×Int
theorem Sg (a b:Int) (p:Nat->Int) (K:Nat) (H:∀j,(p j).natAbs<=K) (j:Nat):(lin a b p j).natAbs<=(a.natAbs+b.natAbs)*K:=by
 unfold lin
 have I:(if 0<j then a*p (j - 1)else 0).natAbs<=a.natAbs*K:=by
  split
  ·rw[Int.natAbs_mul];exact Nat.mul_le_mul_left _ (H _)
  ·simp
 have J:(b*p j).natAbs<=b.natAbs*K:=by rw[Int.natAbs_mul];exact Nat.mul_le_mul_left _ (H _)
 have O:=Int.natAbs_add_le (if 0<j then a*p (j - 1)else 0) (b*p j);rw[Nat.add_mul];omega
theorem eT (i:Nat) (a b c d:Int) (H:a.natAbs+b.natAbs<=2) (I:c.natAbs+d.natAbs<=2) (k:Nat):∀j,(mv i a b c d k j).natAbs<=2 ^ k:=by
 induction k with
 | zero=>
  intro j;show(if j=0 then(1:Int)else 0).natAbs<=1;split <;> simp
 | succ k ih=>
  intro j;rw[mv,Nat.pow_succ,Nat.mul_comm (2 ^ k)];split
  ·exact kU (Sg a b _ _ ih j) (Nat.mul_le_mul_right _ H)
  ·exact kU (Sg c d _ _ ih j) (Nat.mul_le_mul_right _ I)
theorem L7 (a b x:Int) (p:Nat->Int) (j:Nat):lin a b (λj=>x*p j) j=x*lin a b p j:=by
 unfold lin;split <;> grind
def L8 (n w:Nat) (L:List Nat) (f:Nat->Nat×Int) (i j:Nat) (g:M4):Nat->Int:=
 let u:Int:=(L.getD j 0 / n:Nat)
 let v:Int:=(L.getD j 0 % n:Nat)
 let a:=g.1 % n
 let b:=g.2.1 % n
 let c:=g.2.2.1 % n
 let d:=g.2.2.2 % n
 let p:=f (((u*a+v*c) % n).toNat*n+((u*b+v*d) % n).toNat)
 λk=>if p.2=0 then 0 else if k % L.length=p.1/\k / L.length<=w then p.2*mv i g.1 g.2.1 g.2.2.1 g.2.2.2 w (k / L.length)else 0
theorem Ed {n w:Nat} {L:List Nat} {f:Nat->Nat×Int} {i j:Nat} {g:M4} (U:TabOk L.length f) (J:g.1.natAbs+g.2.1.natAbs<=2) (O:g.2.2.1.natAbs+g.2.2.2.natAbs<=2) (k:Nat):(L8 n w L f i j g k).natAbs<=2 ^ w:=by
 have I:∀p:Nat×Int,(p=(0,0)∨p.1<L.length/\(p.2=0∨p.2=1∨p.2=-1))->(if p.2=0 then(0:Int)else if k % L.length=p.1/\k / L.length<=w then p.2*mv i g.1 g.2.1 g.2.2.1 g.2.2.2 w (k / L.length)else 0).natAbs<=2 ^ w:=by
  intro p Y;have H:p.2.natAbs<=1:=by rcases Y with rfl |⟨_,h|h|h⟩ <;> simp[*]
  have V:=eT i g.1 g.2.1 g.2.2.1 g.2.2.2 J O w (k / L.length);split
  ·simp
  split
  ·rw[Int.natAbs_mul]
   exact kU (Nat.mul_le_mul H V) (by rw[Nat.one_mul];exact kT _)
  ·simp
 exact I _ (U _)
def gTurn:M4:=(0,-1,1,0)
def gThird:M4:=(0,-1,1,-1)
def gTwice:M4:=(-1,1,-1,0)
def Kr (n w:Nat) (L:List Nat) (f:Nat->Nat×Int) (r k:Nat):Int:=
 if r<(w+1)*L.length then(if k=r then 1 else 0)+L8 n w L f (r / L.length) (r % L.length) gTurn k
 else(if k=r - (w+1)*L.length then 1 else 0)+L8 n w L f ((r - (w+1)*L.length) / L.length) ((r - (w+1)*L.length) % L.length) gThird k+L8 n w L f ((r - (w+1)*L.length) / L.length) ((r - (w+1)*L.length) % L.length) gTwice k
theorem Rc {n w:Nat} {L:List Nat} {f:Nat->Nat×Int} (H:TabOk L.length f) (U:w<=22) (r k:Nat):(Kr n w L f r k).natAbs<=16777216:=by
 have Z:2 ^ w<=4194304:=kU (Nat.pow_le_pow_right (by decide) U) (by decide);have I:=λi j=>Ed (n:=n) (w:=w) (i:=i) (j:=j) (g:=gTurn) H (by decide) (by decide) k
 have J:=λi j=>Ed (n:=n) (w:=w) (i:=i) (j:=j) (g:=gThird) H (by decide) (by decide) k
 have O:=λi j=>Ed (n:=n) (w:=w) (i:=i) (j:=j) (g:=gTwice) H (by decide) (by decide) k
 unfold Kr;split
 ·have:=I (r / L.length) (r % L.length)
  split <;> omega
 ·have V:=J ((r - (w+1)*L.length) / L.length) ((r - (w+1)*L.length) % L.length)
  have Y:=O ((r - (w+1)*L.length) / L.length) ((r - (w+1)*L.length) % L.length);split <;> omega
def Ks (n w:Nat) (D:Int):Nat->Nat->Int:=Kr n w (pts n (n*n)) (Bb n D (pts n (n*n)) n)
def Ao (n:Nat) (D u v:Int):Nat×Int:=Bb n D (pts n (n*n)) n ((u % n).toNat*n+(v % n).toNat)
section
open Go.RowKit Tryz
theorem Wx:(prog.info? 84).map (λi=>(i.zero,i.size,i.bytes))=some (some (.agg #[.bool false,.slice none 0 0]),2,32):=by kernel_rfl
theorem W9 (n:Nat) (h:n<=1000000) (w:World):
  (Instr.makeSlice 97 (.int .i64 (n:Int)) (.int .i64 (n:Int))).run prog w=.ok (.slice (some ⟨w.heap.size,0,none⟩) n n) (w.alloc (.cells (madeCells #[.bool false,.slice none 0 0] (n*2)) 84)):=by
 obtain⟨i,O,H,I,J⟩:=info_parts Wx;have hr:=run_make (P:=prog) w 97 84 i _ underlying97 O H .i64 .i64 n n (by omega) (Int.le_refl _) (by rw[J];omega) (by omega);rw[Int.toNat_natCast,I]at hr;exact hr
theorem iB {n i:Nat} {v:Value} (h:(madeCells #[.bool false,.slice none 0 0] n)[i]?=some v):NotInt v:=by
 unfold madeCells at h;simp only[Array.getElem?_map,Array.getElem?_range]at h;split at h
 ·simp only[Option.map_some]at h
  injection h with h
  rw[<-h];have H:i % 2=0∨i % 2=1:=by omega
  show NotInt ((#[.bool false,.slice none 0 0]:Array Value)[i % 2]!);rcases H with H|H <;> rw[H] <;> first|exact NotInt.bool _|exact NotInt.slice _ _ _
 ·cases h
theorem ZRow.made (f:Nat->Int) (w:World) (n:Nat):ZRow f (w.alloc (.cells (madeCells #[.bool false,.slice none 0 0] (n*2)) 84)) w.heap.size n 0:=by
 have H:=Blk.new w 84 (madeCells #[.bool false,.slice none 0 0] (n*2));refine⟨Sts.of H ?_,λi _=>H.free_ i,λi I=>?_,λj J=>absurd J (Nat.not_lt_zero _)⟩
 ·intro v O
  obtain⟨i,I⟩:=Array.getElem?_of_mem O;exact iB I
 ·rw[H.cell_ i,Array.getElem?_eq_getElem (by rw[size_madeCells];exact I)];rfl
def dH (w:World) (R:Nat) (z:Int):Prop:=∃s p n c,Blk w R 84 #[.bool s,.slice p n c]/\Zs w s p n c z
theorem Cr {g:Nat} {w w':World} (h:Below g w w') {R i j:Nat} (H:g<=R) {v0 v1:Value}:Below g w ((w'.setCell ⟨R,i,none⟩ v0).setCell ⟨R,j,none⟩ v1):=
 (h.setCell (p:=⟨R,i,none⟩) H v0).setCell (p:=⟨R,j,none⟩) H v1
theorem ZRow.var {f:Nat->Int} {w:World} {g N k R:Nat} {s:Bool} {p:Option Addr} {n c:Nat} {s':Bool} {p':Option Addr} {n' U:Nat} (h:ZRow f w g N k) (hR:Blk w R 84 #[.bool s',.slice p' n' U]) (O:g≠R):ZRow f ((w.setCell ⟨R,0,none⟩ (.bool s)).setCell ⟨R,1,none⟩ (.slice p n c)) g N k:=by
 have hg:=Jq w R 0 1 (.bool s) (.slice p n c);have H:((w.setCell ⟨R,0,none⟩ (.bool s)).setCell ⟨R,1,none⟩ (.slice p n c)).heap[g]?=w.heap[g]?:=hg.block g h.sts.1 (λe=>by injection e with e;exact O e);have I:=I32.put2 (Sts.box hR) 0 1 (.bool s) (.slice p n c) (NotInt.bool _);refine⟨⟨kV h.sts.1 hg.size,λi v hv=>h.sts.2 i v ((World.cell?_of_block (a:=⟨g,i,none⟩) H).symm.trans hv)⟩,λi J=>(World.frozen?_of_block (a:=⟨g,i,none⟩) H).trans (h.free i J),λi J=>by rw[World.cell?_of_block (a:=⟨g,i,none⟩) H];exact h.has i J,λj hj=>?_⟩;obtain⟨s,p,n,c,V,Y,Z⟩:=h.val j hj;exact⟨s,p,n,c,(World.cell?_of_block (a:=⟨g,_,none⟩) H).trans V,(World.cell?_of_block (a:=⟨g,_,none⟩) H).trans Y,Z.i32 I⟩
theorem Ov (v:Value) (m:Nat) (f:Nat->Int) (s:Bool) (p:Option Addr) (n c:Nat) (a:Int) (t:Bool) (q:Option Addr) (m' d:Nat) (b:Int) (w:World) (h:ZL f w v m) (ha:Zs w s p n c a) (H:Zs w t q m' d b) (h0:0<m) (hm:m<=1000) (hn:n<=10) (mG:m'<=10) (hf:∀j,nd (f j).natAbs<=1000) (hz:∀j,m<=j->f j=0):
  Calls prog 145 #[v,.agg #[.bool s,.slice p n c],.agg #[.bool t,.slice q m' d]] w λe w'=>(∃g,e=.returned (.slice (some ⟨g,0,none⟩) ((m+1:Nat)) ((m+1:Nat)))/\w.heap.size<=g/\ZRow (lin a b f) w' g (m+1) (m+1))/\Below w.heap.size w w':=by
 obtain⟨g1,o1,l1,rfl,hG,r1⟩:=h.resolve_left (λh=>by omega);have hY:=Kh r1;have HF:=Kh hf;have mD:=Kh hz;have HA:=Kh ha;have HB:=Kh H;obtain⟨N,hN⟩:∃N,m+1=N:=⟨_,rfl⟩
 have nL:(m:Int)+1=(N:Nat):=by omega
 have mF:=W9 N (by omega);rw[hN];clear h r1 hf ha H hz;go_enter func145,ntmps145
 go_wp2_with fail
 obtain⟨w0,dY⟩:∃w0,(w.alloc (.cells #[.bool s,.slice p n c] 84)).alloc (.cells #[.bool t,.slice q m' d] 84)=w0:=⟨_,rfl⟩
 obtain⟨X0,X1,aU⟩:=Oc w #[.bool s,.slice p n c] 84 #[.bool t,.slice q m' d] 84;rw[dY]at X0 X1 aU;have dE:w0.heap.size=w.heap.size+1+1:=by rw[<-dY];simp
 have dC:=ZRow.made (lin a b f) w0 N;obtain⟨wn,gA⟩:∃wn,w0.alloc (.cells (madeCells #[.bool false,.slice none 0 0] (N*2)) 84)=wn:=⟨_,rfl⟩
 have hE:Below w0.heap.size w0 wn:=gA▸(Below.refl _ _).alloc (kT _) _;rw[gA]at dC;rw[dY,gA];obtain⟨gx,cT⟩:∃gx,w.heap.size=gx:=⟨_,rfl⟩
 obtain⟨gy,cX⟩:∃gy,gx+1=gy:=⟨_,rfl⟩
 obtain⟨g,hg⟩:∃g,gy+1=g:=⟨_,rfl⟩
 rw[cT,cX,hg]at dE;rw[cT]at X0 X1;rw[cX]at X1;rw[dE]at dC hE;rw[cT,cX,hg];have kZ:=Kh X0;have lA:=Kh X1;have hU:=Kh hE;have hZ:=Kh dC;have lI:w.heap.size<=g:=by omega
 have lL:gx<g:=by omega
 have lM:gy<g:=by omega
 have HW:=Kh aU;have hW:=Kh (show g1<g by omega);have HR:=Kh (λj (hj:j<m)=>ZE.keep (hY.1 j hj) aU);have hT:=Kh (HA.1.keep aU);have hV:=Kh (HB.1.keep aU);have iL:=Kh dE;clear X0 X1 aU dY gA dC hE hG cT cX hg dE mF hY HA HB;go_loopw [16] (λi wr=>∃k:Nat,k<=N/\i=.int .i64 k/\ZRow (lin a b f) wr g N k/\Below g w0 wr) (λi _=>N - (intOf i).toNat)
 case atStart=>exact⟨0,Nat.zero_le _,rfl,hZ.1,hU.1⟩
 case round=>
  obtain⟨k,hk,rfl,gP,cG⟩:=hrel;obtain⟨w1,rfl⟩:∃w1:World,w1=wr:=⟨_,rfl⟩
  have aK:=Kh gP;have cA:=Kh cG;clear gP cG hU hZ;by_cases hlt:k<N
  ·have nN:(k:Int)<(N:Int):=by omega
   go_wp2_with fail
   refine(Gc 0 w1 (by omega) (by omega)).mono ?_;rintro e w2 ⟨⟨s3,p3,n3,c3,rfl,lN⟩,aD⟩;have gS:g<w2.heap.size:=kV aK.1.sts.1 aD.size;have bA:=Kh (ZRow.keep aK.1 aD);have gL:=Kh (cA.1.trans (aD.mono (Nat.le_of_lt aK.1.sts.1)));have lB:=Kh lN;clear lN aD aK cA;go_upto_if 21 with(fail)
   obtain⟨w3,eP⟩:∃w3,w2.alloc (.cells #[.bool s3,.slice p3 n3 c3] 84)=w3:=⟨_,rfl⟩
   have aD:Below w2.heap.size w2 w3:=eP▸(Below.refl _ _).alloc (kT _) _;have I:=eP▸Blk.new w2 84 #[.bool s3,.slice p3 n3 c3];rw[eP];obtain⟨R,hR⟩:∃R,w2.heap.size=R:=⟨_,rfl⟩
   rw[hR]at I ⊢;have cF:g<R:=by omega
   have gU:=Kh (show dH w3 R 0 from⟨s3,p3,n3,c3,I,lB.1.keep aD⟩);have Y:=Kh (ZRow.keep bA.1 aD);have U:=Kh (gL.1.trans (aD.mono (Nat.le_of_lt gS)));clear eP aD I hR gS bA gL lB;obtain⟨u1,lK⟩:∃u1,(if 0<k then a*f (k - 1)else 0)=u1:=⟨_,rfl⟩
   have aL:=Kh lK;clear lK;go_cut []from 20 to 28 (λwd=>dH wd R u1/\ZRow (lin a b f) wd g N k/\Below g w0 wd)
   case first=>
    by_cases hk0:0<k
    ·obtain⟨k1,lJ⟩:∃k1,k=k1+1:=⟨k - 1,by omega⟩
     have HU:=Kh (show a*f k1=u1 by rw[<-aL.1,if_pos hk0,lJ,Nat.add_sub_cancel]);obtain⟨J,rfl⟩:∃J:World,J=w3:=⟨_,rfl⟩
     have aN:Below w0.heap.size w0 J:=iL.1▸U.1;obtain⟨s',p',i',c',a0,a1,hx⟩:=(HR.1 k1 (by omega)).keep aN;have HP:=Kh (show Zs J s' p' i' c' (f k1)from hx);have x0:=(kZ.1.below_ U.1 lL).at_ 0 rfl;have x1:=(kZ.1.below_ U.1 lL).at_ 1 rfl;have HX:=Kh (hT.1.keep aN);have HI:=Kh (show i'<=1000 by rw[<-hx.2.1];exact HF.1 k1);have cB:=Kh (λW (H:Below J.heap.size J W)=>Gw s p n c a s' p' i' c' (f k1) W (HX.1.keep H).raw (HP.1.keep H).raw (by omega) (by have:=HI.1;omega));rw[HU.1]at cB;obtain⟨s5,p5,n5,c5,I,_⟩:=gU.1;have bB:=Kh I;have mZ:(k:Int) - 1=(k1:Nat):=by omega
     have mY:k1<m:=by omega
     have mX:(k1:Int)<(m:Int):=by omega
     have nO:IntKind.i64.wrap (k1:Int)=(k1:Nat):=IntWalk.i64_in _ (by omega);have mV:(0:Int)<=(k1:Int):=by omega
     have hG:=hW.1;have mW:(0:Int)<(k:Int):=by omega
     clear hx aN HX HP lJ HU aL;go_upto_region 7 with(fail)
     refine K6 (λW=>W.cell? ⟨gx,0,none⟩=some (.bool s)/\W.cell? ⟨gx,1,none⟩=some (.slice p n c)/\W.cell? ⟨g1,o1+k1*2,none⟩=some (.bool s')/\W.cell? ⟨g1,o1+k1*2+1,none⟩=some (.slice p' i' c')/\W.cell? ⟨R,0,none⟩=some (.bool s5)/\W.frozen? ⟨R,0,none⟩=false/\W.cell? ⟨R,1,none⟩=some (.slice p5 n5 c5)/\W.frozen? ⟨R,1,none⟩=false) (λW H=>⟨Au H x0,Au H x1,Au H a0,Au H a1,Au H (I.at_ 0 rfl),Ab H (by rw[(I.at_ 0 rfl)];rfl) (I.free_ 0),Au H (I.at_ 1 rfl),Ab H (by rw[(I.at_ 1 rfl)];rfl) (I.free_ 1)⟩) (λcC hHeld0=>?_);clear x0 x1 a0 a1 I;refine Al 0 ?_;refine Al 1 ?_;refine Al 2 ?_;refine Al 3 ?_;refine Al 4 ?_;refine Al 5 ?_;refine F9 6 rfl (λK hK=>?_);focus(go_simp;refine(cB.1 _ (Below.refl _ J).drew).mono ?_;rintro e w4 ⟨⟨s4,p4,n4,c4,rfl,bE⟩,bC⟩;have O:=Kh ((Below.refl _ J).drew.trans bC:Below J.heap.size J w4);have cD:=Kh bE;clear bE bC;(first|with_reducible refine hK.out _ _ ?_ (λhHeld1=>?_) |(go_wp2_with fail;with_reducible refine hK.out _ _ ?_ (λhHeld1=>?_))))
     focus((try dsimp only);exact cC.1 _ O.1)
     focus(clear hK K;(try simp only[Act.put,Br,Bt,Bs]))
     refine K5 7 rfl (λK hK=>?_);go_simp
     refine hK.out _ _ ?_;clear hK K
     (try simp only[Act.put,Br,Bt,Bs])
     all_goals go_wp2
     all_goals go_meet
     all_goals have aJ:=O.1
     all_goals obtain⟨hv1,hv2⟩:=Fw (bk bB aJ) cD.1
     all_goals exact⟨⟨_,_,_,_,hv1,hv2⟩,ZRow.var (ZRow.keep Y.1 aJ) (bk bB aJ) (Nat.ne_of_lt cF),Cr (U.1.trans (aJ.mono (Nat.le_of_lt Y.1.sts.1))) (Nat.le_of_lt cF)⟩
    ·have HU:=Kh (show 0=u1 by rw[<-aL.1,if_neg hk0])
     obtain rfl:k=0:=by omega
     go_wp2;go_meet
     exact⟨HU.1▸gU.1,Y.1,U.1⟩
   case rest=>
    obtain⟨hv,hr,H⟩:=hcut;obtain⟨J,rfl⟩:∃J:World,J=wc:=⟨_,rfl⟩
    have hB:=Kh hv;have Z:=Kh hr;have V:=Kh H;clear hv hr H gU Y U;go_upto_if 32 with(fail)
    go_cut []from 29 to 40 (λwd=>dH wd R (lin a b f k)/\ZRow (lin a b f) wd g N k/\Below g w0 wd)
    case first=>
     by_cases hkm:k<m
     ·have HU:=Kh (show u1+b*f k=lin a b f k by unfold lin;rw[aL.1])
      have aN:Below w0.heap.size w0 J:=iL.1▸V.1;obtain⟨s',p',i',c',a0,a1,hx⟩:=(HR.1 k hkm).keep aN;have HP:=Kh (show Zs J s' p' i' c' (f k)from hx);have x0:=(lA.1.below_ V.1 lM).at_ 0 rfl;have x1:=(lA.1.below_ V.1 lM).at_ 1 rfl;have HX:=Kh (hV.1.keep aN);have HI:=Kh (show i'<=1000 by rw[<-hx.2.1];exact HF.1 k);have cB:=Kh (λW (H:Below J.heap.size J W)=>Gw t q m' d b s' p' i' c' (f k) W (HX.1.keep H).raw (HP.1.keep H).raw (by omega) (by have:=HI.1;omega));obtain⟨s5,p5,n5,c5,I,aX⟩:=hB.1;have bB:=Kh I;have mC:=Kh aX
      have mB:=Kh (show n5<=2000 by
       rw[<-aX.2.1,<-aL.1];split
       ·rw[Int.natAbs_mul]
        have h1:=Cd a.natAbs (f (k - 1)).natAbs;have h2:=HF.1 (k - 1);have h3:nd a.natAbs<=10:=by rw[hT.1.2.1];exact hn
        omega
       ·simp[Du])
      have mA:=Kh (show nd (b*f k).natAbs<=2000 by
       rw[Int.natAbs_mul];have h1:=Cd b.natAbs (f k).natAbs;have h2:=HF.1 k;have h3:nd b.natAbs<=10:=by rw[hV.1.2.1];exact mG
       omega)
      have nA:(k:Int)<(m:Int):=by omega
      have hG:=hW.1;clear hx aN HX HP aL aX;go_upto_region 9 with(fail)
      refine K6 (λW=>W.cell? ⟨gy,0,none⟩=some (.bool t)/\W.cell? ⟨gy,1,none⟩=some (.slice q m' d)/\W.cell? ⟨g1,o1+k*2,none⟩=some (.bool s')/\W.cell? ⟨g1,o1+k*2+1,none⟩=some (.slice p' i' c')/\W.cell? ⟨R,0,none⟩=some (.bool s5)/\W.frozen? ⟨R,0,none⟩=false/\W.cell? ⟨R,1,none⟩=some (.slice p5 n5 c5)/\W.frozen? ⟨R,1,none⟩=false) (λW H=>⟨Au H x0,Au H x1,Au H a0,Au H a1,Au H (I.at_ 0 rfl),Ab H (by rw[(I.at_ 0 rfl)];rfl) (I.free_ 0),Au H (I.at_ 1 rfl),Ab H (by rw[(I.at_ 1 rfl)];rfl) (I.free_ 1)⟩) (λcC hHeld0=>?_);clear x0 x1 a0 a1 I;refine Al 0 ?_;refine Al 1 ?_;refine Al 2 ?_;refine Al 3 ?_;refine Al 4 ?_;refine Al 5 ?_;refine F9 6 rfl (λK hK=>?_);focus(go_simp;refine(cB.1 _ (Below.refl _ J).drew).mono ?_;rintro e w4 ⟨⟨s4,p4,n4,c4,rfl,bE⟩,bC⟩;have O:=Kh ((Below.refl _ J).drew.trans bC:Below J.heap.size J w4);have cD:=Kh bE;clear bE bC;(first|with_reducible refine hK.out _ _ ?_ (λhHeld1=>?_) |(go_wp2_with fail;with_reducible refine hK.out _ _ ?_ (λhHeld1=>?_))))
      focus((try dsimp only);exact cC.1 _ O.1)
      focus(clear hK K;(try simp only[Act.put,Br,Bt,Bs]))
      refine F9 7 rfl (λK hK=>?_);focus(go_simp;refine(Rx s5 p5 n5 c5 u1 s4 p4 n4 c4 (b*f k) _ (mC.1.keep O.1).raw cD.1.raw (by have:=mB.1;omega) (by rw[<-cD.1.2.1];have:=mA.1;omega)).mono ?_;rintro e w6 ⟨⟨s6,p6,n6,c6,rfl,lO⟩,lH⟩;have gF:=bt O lH;have mE:=Kh lO;clear lO lH;(first|with_reducible refine hK.out _ _ ?_ (λhHeld2=>?_) |(go_wp2_with fail;with_reducible refine hK.out _ _ ?_ (λhHeld2=>?_))))
      focus((try dsimp only);exact cC.1 _ gF.1)
      focus(clear hK K;(try simp only[Act.put,Br,Bt,Bs]))
      refine K5 8 rfl (λK hK=>?_);go_simp
      refine hK.out _ _ ?_;clear hK K
      (try simp only[Act.put,Br,Bt,Bs])
      all_goals go_wp2
      all_goals go_meet
      all_goals have aJ:=gF.1
      all_goals obtain⟨hv1,hv2⟩:=Fw (bk bB aJ) mE.1
      all_goals exact⟨⟨_,_,_,_,hv1,HU.1▸hv2⟩,ZRow.var (ZRow.keep Z.1 aJ) (bk bB aJ) (Nat.ne_of_lt cF),Cr (V.1.trans (aJ.mono (Nat.le_of_lt Z.1.sts.1))) (Nat.le_of_lt cF)⟩
     ·have HU:=Kh (show u1=lin a b f k by unfold lin;rw[aL.1,mD.1 k (by omega),Int.mul_zero,Int.add_zero])
      go_wp2;go_meet
      exact⟨HU.1▸hB.1,Z.1,V.1⟩
    case rest=>
     obtain⟨⟨s5,p5,n5,c5,I,aX⟩,hr,H⟩:=hcut;obtain⟨w7,rfl⟩:∃w7:World,w7=wc:=⟨_,rfl⟩
     have y0:=I.at_ 0 rfl;have y1:=I.at_ 1 rfl;have lZ:=Kh (ZRow.set (k':=k+1) hr k hlt (lin a b f) (λi' h1 h2=>⟨by omega,rfl⟩) aX);have lX:=Kh H;obtain⟨u0,nQ⟩:=kX (hr.has (k*2) (by omega));obtain⟨u2,hu2⟩:=kX (hr.has (k*2+1) (by omega));have f0:=hr.free (k*2) (by omega);have f1:=hr.free (k*2+1) (by omega);clear I aX hr H hB Z V;go_wp2;go_roundw
     case rel=>exact⟨k+1,by omega,by go_num,lZ.1,Cr lX.1 (kT _)⟩
     case measure=>simp[intOf];omega
  ·obtain rfl:N=k:=by omega
   have cG:=cA.1;clear cG;go_wp2;go_ret;exact⟨⟨g,rfl,lI,aK.1⟩,HW.1.trans (cA.1.mono lI)⟩
end
end Go.Proofs.YtenlbhlllgppmaaGreatDoor
