/- Rows of integers and of fractions in memory: blocks that hold no digits, and append at them. -/
import Derived.Test.YtenlbhlllgppmaaGreatDoorB14
set_option maxRecDepth 100000
set_option maxHeartbeats 8000000
namespace Go.Proofs.YtenlbhlllgppmaaGreatDoor
section
open Go.RowKit Tryz
def Stk (K:Value->Prop) (w:World) (R:Nat):Prop:=R<w.heap.size/\∀i v,w.cell? ⟨R,i,none⟩=some v->K v
theorem Stk.sts {w:World} {R:Nat} (h:Stk NotInt w R):Sts w R:=h
theorem Stk.next {K:Value->Prop} {w w':World} {R:Nat} (I:Below w.heap.size w w') (h:Stk K w R):Stk K w' R:=
 ⟨nT h.1 I.size,λi v J=>h.2 i v ((I.cell (p:=⟨R,i,none⟩) h.1).symm.trans J)⟩
theorem Stk.of {K:Value->Prop} {w:World} {R:Nat} {t:TypeId} {I:Array Value} (h:Blk w R t I) (O:∀v∈I.toList,K v):Stk K w R:=
 ⟨h.lt,λi v J=>by
  rw[h.cell_ i]at J;exact O v (List.mem_of_getElem? (by simpa using J))⟩
theorem Stk.cells {K:Value->Prop} {w:World} {R:Nat} {t:TypeId} {I:Array Value} (h:Blk w R t I) (O:Stk K w R):∀v∈I.toList,K v:=by
 intro v U;obtain⟨i,J⟩:=List.getElem?_of_mem U;exact O.2 i v (by rw[h.cell_ i];simpa using J)
theorem G8 {z:Array Value} {n:Nat} {v:Value} (h:v∈(Builtin.zeroCells z n).toList):v∈z.toList:=by
 simp only[Builtin.zeroCells,Array.toList_map,List.mem_map,Array.toList_range,List.mem_range]at h;obtain⟨i,U,rfl⟩:=h
 have O:0<z.size:=by
  rcases Nat.eq_zero_or_pos z.size with I|I
  ·rw[I]at U;omega
  ·exact I
 have J:=Nat.mod_lt i O;rw[getElem!_pos z (i % z.size) J];exact Array.getElem_mem_toList J
theorem E7 {P:Program} (K:Value->Prop) (w:World) (B:Nat) (t ty e:TypeId) (i:TypeInfo) (z:Value) (size V:Nat) (ht:P.underlying t=some (.slice e)) (hi:P.info? e=some i) (hz:i.zero=some z)
  (bE:i.size=size) (dC:i.bytes=V) (hG:z.cells.size=size) (hE:0<size)
  (v:Value) (n:Nat) (xs:List Value) (Z:w.ownsRow B e size v n xs)
  (a:Addr) (m c:Nat) (J:List Value) (hl:J.length=m*size) (O:∀j u,J[j]?=some u->w.cell? (a.add j)=some u) (h1:∀u∈J,u.oneCell'=true)
  (cT:n+m<=maxLen) (U:(n+m)*V<=140737488355328) (hm:0<m)
  (hK:∀g,v.ownBlock=some g->Stk K w g) (bB:∀u∈J,K u) (cA:∀u∈z.cells.toList,K u)
  {v':Value} {w':World} (hr:(Builtin.append_ #[t,t] ty #[v,.slice (some a) m c]).run P w=.ok v' w'):
  ∀g,v'.ownBlock=some g->Stk K w' g:=by
 subst bE;subst dC;have cD:n+m<=9223372036854775807:=by simp only[maxLen]at cT;omega
 rcases Z.2 with⟨rfl,rfl⟩ |⟨g,cap,aX,rfl,gU,hg,hD,hB,dE,bY⟩
 ·have h:=run_append_nil (P:=P) w t ty e i z ht hi hz a m c J hl O (by omega) (by omega) (by have hb:=U;simp only[Nat.zero_add]at hb;omega)
  rw[h]at hr;injection hr with hr3 hr4
  subst hr3;subst hr4;intro g hg;simp[Value.ownBlock]at hg;subst hg;refine Stk.of (Blk.new w.drew e _) ?_;intro u I;rw[Array.toList_append,List.mem_append]at I;rcases I with I|I
  ·exact bB u (by simpa using I)
  ·exact cA u (G8 I)
 ·have hS:=hK g rfl
  have bA:=Stk.cells (t:=e) hg hS;have cX:∀u∈xs,K u:=λu I=>bA u (List.mem_of_mem_take (by rw[bY];exact I))
  by_cases hroom:n+m<=cap
  ·have cB:n*i.size+J.length<=aX.size:=by rw[hl,dE,<-Nat.add_mul];exact Nat.mul_le_mul_right _ hroom
   have h:=run_append_room (P:=P) w t ty e i ht hi g n cap aX hg a m c J hl O h1 hroom cB;rw[h]at hr;injection hr with hr3 hr4
   subst hr3;subst hr4;intro g' Y;simp[Value.ownBlock]at Y;subst Y;refine Stk.of (t:=e) (setRow_heap w g aX _ e _ hg) ?_;intro u I;simp only[List.mem_append]at I;rcases I with(I|I)|I
   ·exact bA u (List.mem_of_mem_take I)
   ·exact bB u I
   ·exact bA u (List.mem_of_mem_drop I)
  ·have bC:∀j u,xs[j]?=some u->w.cell? ((⟨g,0,none⟩:Addr).add j)=some u:=Z.cells (g:=g) rfl
   have h:=run_append_grow (P:=P) w t ty e i z ht hi hz ⟨g,0,none⟩ n cap xs Z.1 bC a m c J hl O (by omega) (by omega) (growslice_fits (by omega) U);rw[h]at hr;injection hr with hr3 hr4
   subst hr3;subst hr4;intro g' Y;simp[Value.ownBlock]at Y;subst Y;refine Stk.of (Blk.new w.drew e _) ?_;intro u I;rw[Array.toList_append,List.mem_append,Array.toList_append,List.mem_append]at I;rcases I with(I|I)|I
   ·exact cX u (by simpa using I)
   ·exact bB u (by simpa using I)
   ·exact cA u (G8 I)
def OwnK (K:Value->Prop) (w:World) (B E sz:Nat) (v:Value) (n:Nat) (xs:List Value):Prop:=w.ownsRow B E sz v n xs/\∀g,v.ownBlock=some g->Stk K w g
theorem OwnK.nil (K:Value->Prop) (w:World) (B E I:Nat):OwnK K w B E I (.slice none 0 0) 0 []:=⟨World.ownsRow_nil w B E I,λg hg=>by simp[Value.ownBlock]at hg⟩
theorem OwnK.keep {K:Value->Prop} {w w':World} {B E J n:Nat} {v:Value} {O:List Value} (h:OwnK K w B E J v n O) (I:Below w.heap.size w w'):OwnK K w' B E J v n O:=
 ⟨Lc h.1 I,λg hg=>(h.2 g hg).next I⟩
theorem B9 {P:Program} {W:World} {cB:Array Oper} {rest:List Oper} {o:Oper} {a:Act} {Q:Exit->Act->World->Prop} (K:Value->Prop) (cT:o.guard=none) (s x:Operand) (t E:TypeId)
  (ho:o.op=.call { callee:=.builtin .append,args:=#[s,x],argTypes:=#[t,t] }) {z:Value} {V J:Nat} (hU:P.underlying t=some (.slice E))
  (Y:(P.info? E).map (λi=>(i.zero,i.size,i.bytes))=some (some z,V,J)) (cA:z.cells.size=V) (bB:0<V) (B n:Nat) (v:Value) (xs I:List Value)
  (hs:a.eval s=v) (bA:OwnK K W B E V v n xs) (hx:a.eval x=.slice (some ⟨W.heap.size,0,none⟩) 1 1) (hn:I.length=V) (h1:∀u∈I,u.oneCell'=true)
  (hb:(n+1)*J<=140737488355328) (hm:n+1<=9223372036854775807) (hB:B<=W.heap.size) (cF:∀u∈I,K u) (cG:∀u∈z.cells.toList,K u)
  (h:∀Z w',OwnK K w' B E V Z (n+1) (xs++I)->W.grownBy w' v.ownBlock->(Z.ownBlock=v.ownBlock∨Z.ownBlock=some (W.heap.size+1))->wpList P cB Q rest (a.put o.dst Z) w'):
  wpList P cB Q (o :: rest) a (W.alloc (.cells I.toArray E)):=by
 obtain⟨i0,hi,bC,bE,bY⟩:=info_parts Y
 have U:∀(j:Nat) (u:Value),I[j]?=some u->(W.alloc (.cells I.toArray E)).cell? ((⟨W.heap.size,0,none⟩:Addr).add j)=some u:=by
  intro j u hu;have hc:=(Blk.new W E I.toArray).cell_ j
  have e:(⟨W.heap.size,0,none⟩:Addr).add j=⟨W.heap.size,j,none⟩:=by
   unfold Addr.add;split
   ·rename_i h0;rw[h0]
   ·simp
  rw[e,hc]
  simpa using hu
 have O:OwnK K (W.alloc (.cells I.toArray E)) B E V v n xs:=bA.keep ((Below.refl _ _).alloc (nR _) _);obtain⟨Z,w',hr,g1,g2,_,g3⟩:=run_append_own_at (P:=P) (W.alloc (.cells I.toArray E)) B t o.type E i0 z V J hU hi bC bE bY cA bB v n xs O.1 ⟨W.heap.size,0,none⟩ 1 1 I (by omega) U h1 hm hb (by simp;omega);have g4:=E7 K (W.alloc (.cells I.toArray E)) B t o.type E i0 z V J hU hi bC bE bY cA bB v n xs O.1 ⟨W.heap.size,0,none⟩ 1 1 I (by omega) U h1 hm hb (by omega) O.2 cF cG hr;refine wpList_plain cT λK' cD=>?_
 unfold Oper.wp execOp;simp only[ho,resolve,invoke,builtin,Sem.run_bind,Sem.run_pure,Result.andThen_ok,List.map_toArray,List.map_cons,List.map_nil,hs,hx,hr];refine cD _ _ (h Z w' ⟨g1,g4⟩ (D4 g2) ?_);rcases g3 with g3|g3
 ·exact .inl g3
 ·exact .inr (by rw[g3];simp)
/-! What keeps the digits -/
structure I32 (w w':World):Prop where
 size:w.heap.size<=w'.heap.size
 cell:∀(g i n:Nat),w.cell? ⟨g,i,none⟩=some (.int .u32 n)->w'.cell? ⟨g,i,none⟩=some (.int .u32 n)
theorem I32.refl (w:World):I32 w w:=⟨nR _,λ_ _ _ h=>h⟩
theorem I32.trans {a b c:World} (h:I32 a b) (k:I32 b c):I32 a c:=⟨nS h.size k.size,λg i n e=>k.cell g i n (h.cell g i n e)⟩
theorem I32.below {w w':World} (I:Below w.heap.size w w'):I32 w w':=
 ⟨I.size,λg i _ e=>(I.cell (p:=⟨g,i,none⟩) (World.block_lt_of_cell? w ⟨g,i,none⟩ e)).trans e⟩
theorem I32.put {w:World} {R:Nat} (O:Sts w R) (i:Nat) (u:Value):I32 w (w.setCell ⟨R,i,none⟩ u):=
 ⟨by simp,λg j n e=>by
  have I:R≠g:=λJ=>O.2 j _ (by rw[J];exact e) _ _ rfl
  rw[World.cell?_setCell_far w ⟨R,i,none⟩ ⟨g,j,none⟩ u I];exact e⟩
theorem I32.put4 {w:World} {R:Nat} (I:Sts w R) (i j k l:Nat) (v0 v1 v2 v3:Value) (J:NotInt v0) (O:NotInt v1) (U:NotInt v2):
  I32 w ((((w.setCell ⟨R,i,none⟩ v0).setCell ⟨R,j,none⟩ v1).setCell ⟨R,k,none⟩ v2).setCell ⟨R,l,none⟩ v3):=
 (((I32.put I i v0).trans (I32.put (I.put _ _ J) j v1)).trans (I32.put ((I.put _ _ J).put _ _ O) k v2)).trans (I32.put (((I.put _ _ J).put _ _ O).put _ _ U) l v3)
theorem I32.put2 {w:World} {R:Nat} (I:Sts w R) (i j:Nat) (v0 v1:Value) (J:NotInt v0):I32 w ((w.setCell ⟨R,i,none⟩ v0).setCell ⟨R,j,none⟩ v1):=
 (I32.put I i v0).trans (I32.put (I.put _ _ J) j v1)
theorem I32.grown {K:Value->Prop} (I:∀n,¬K (.int .u32 n)) {w w':World} {v:Value} (hK:∀g,v.ownBlock=some g->Stk K w g) (hg:w.grownBy w' v.ownBlock):I32 w w':=
 ⟨hg.size,λg i n e=>hg.cell e (λJ=>I n ((hK g J.symm).2 i _ e))⟩
theorem Gn (n:Int):¬NotInt (.int .u32 n):=λh=>h _ _ rfl
theorem Dg.i32 {w w':World} (h:I32 w w') {p:Option Addr} {c n:Nat} {a:Nat->Nat} (I:Dg w p c n a):Dg w' p c n a:=
 ⟨I.cap,I.lt,by
  rcases I.at' with J |⟨g,o,e,hg,O⟩
  ·exact .inl J
  ·exact .inr ⟨g,o,e,nT hg h.size,λj U=>h.cell _ _ _ (O j U)⟩⟩
theorem Zs.i32 {w w':World} (h:I32 w w') {s:Bool} {p:Option Addr} {n c:Nat} {z:Int} (I:Zs w s p n c z):Zs w' s p n c z:=⟨I.1,I.2.1,Dg.i32 h I.2.2⟩
theorem Zr.i32 {w w':World} (h:I32 w w') {s:Bool} {p:Option Addr} {n c:Nat} {z:Int} (O:Zr w s p n c z):Zr w' s p n c z:=by
 obtain⟨a,I,J⟩:=O;exact⟨a,Dg.i32 h I,J⟩
theorem Qs.i32 {w w':World} (h:I32 w w') {s:Bool} {p:Option Addr} {n c:Nat} {t:Bool} {q:Option Addr} {m d:Nat} {r:Rat} (I:Qs w s p n c t q m d r):Qs w' s p n c t q m d r:=⟨I.1.i32 h,I.2.i32 h⟩
/-! Elements of rows of fractions -/
abbrev FP:=World->Bool->Option Addr->Nat->Nat->Bool->Option Addr->Nat->Nat->Prop
def Bu (P:FP):Prop:=∀w w' s p n c t q m d,I32 w w'->P w s p n c t q m d->P w' s p n c t q m d
def IsQ (r:Rat):FP:=λw s p n c t q m d=>Qs w s p n c t q m d r
theorem IsQ.solid (r:Rat):Bu (IsQ r):=λ_ _ _ _ _ _ _ _ _ _ h hq=>hq.i32 h
def IsR (x y:Int):FP:=λw s p n c t q m d=>Zr w s p n c x/\Zr w t q m d y/\n<=4/\m<=4
theorem IsR.solid (x y:Int):Bu (IsR x y):=λ_ _ _ _ _ _ _ _ _ _ h hq=>⟨hq.1.i32 h,hq.2.1.i32 h,hq.2.2⟩
def QE (P:FP) (w:World) (g i:Nat):Prop:=∃s p n c t q m d,w.cell? ⟨g,i,none⟩=some (.bool s)/\w.cell? ⟨g,i+1,none⟩=some (.slice p n c)/\w.cell? ⟨g,i+2,none⟩=some (.bool t)/\w.cell? ⟨g,i+3,none⟩=some (.slice q m d)/\P w s p n c t q m d
theorem QE.keep {P:FP} (hP:Bu P) {w w':World} {g i:Nat} (h:QE P w g i) (J:Below w.heap.size w w'):QE P w' g i:=by
 obtain⟨s,p,n,c,t,q,m,d,O,U,V,Y,Z⟩:=h;have I:∀j v,w.cell? ⟨g,j,none⟩=some v->w'.cell? ⟨g,j,none⟩=some v:=λj v e=>(J.cell (p:=⟨g,j,none⟩) (World.block_lt_of_cell? w ⟨g,j,none⟩ e)).trans e
 exact⟨s,p,n,c,t,q,m,d,I _ _ O,I _ _ U,I _ _ V,I _ _ Y,hP _ _ _ _ _ _ _ _ _ _ (I32.below J) Z⟩
def QL (F:Nat->FP) (w:World) (v:Value) (n:Nat):Prop:=(n=0/\∃a c,v=.slice a 0 c)∨∃g o cap,v=.slice (some ⟨g,o,none⟩) n cap/\g<w.heap.size/\∀j,j<n->QE (F j) w g (o+j*4)
theorem QL.keep {F:Nat->FP} (hF:∀j,Bu (F j)) {w w':World} {v:Value} {n:Nat} (h:QL F w v n) (I:Below w.heap.size w w'):QL F w' v n:=by
 rcases h with h |⟨g,o,cap,e,hg,J⟩
 ·exact .inl h
 ·exact .inr ⟨g,o,cap,e,nT hg I.size,λj O=>(J j O).keep (hF j) I⟩
structure QRow (F:Nat->FP) (w:World) (g N k:Nat):Prop where
 sts:Sts w g
 free:∀i,i<N*4->w.frozen? ⟨g,i,none⟩=false
 has:∀i,i<N*4->(w.cell? ⟨g,i,none⟩).isSome=true
 val:∀j,j<k->QE (F j) w g (j*4)
theorem QRow.keep {F:Nat->FP} (hF:∀j,Bu (F j)) {w w':World} {g N k:Nat} (h:QRow F w g N k) (I:Below w.heap.size w w'):QRow F w' g N k:=
 ⟨h.sts.next I,λi J=>Ab I (h.has i J) (h.free i J),λi J=>by rw[I.cell (p:=⟨g,i,none⟩) h.sts.1];exact h.has i J,λj O=>(h.val j O).keep (hF j) I⟩
theorem QRow.ql {F:Nat->FP} {w:World} {g N:Nat} (h:QRow F w g N N) (c:Nat):QL F w (.slice (some ⟨g,0,none⟩) N c) N:=
 .inr ⟨g,0,c,rfl,h.sts.1,λj I=>by rw[Nat.zero_add];exact h.val j I⟩
theorem QRow.congr {F G:Nat->FP} {w:World} {g N k:Nat} (h:QRow F w g N k) (e:∀j,j<k->F j=G j):QRow G w g N k:=⟨h.sts,h.free,h.has,λj I=>by rw[<-e j I];exact h.val j I⟩
theorem Ai {w:World} {a:Addr} {R i:Nat} {u:Value} (h:(w.cell? a).isSome=true):((w.setCell ⟨R,i,none⟩ u).cell? a).isSome=true:=Bh h
theorem QRow.set {F:Nat->FP} (hF:∀j,Bu (F j)) {w:World} {g N k k':Nat} (h:QRow F w g N k) (j:Nat) (hj:j<N) (G:Nat->FP) (hG:Bu (G j)) (hk:∀i,i<k'->i≠j->i<k/\F i=G i)
  {s t:Bool} {p q:Option Addr} {n c m d:Nat} (hq:G j w s p n c t q m d):
  QRow G ((((w.setCell ⟨g,j*4,none⟩ (.bool s)).setCell ⟨g,j*4+1,none⟩ (.slice p n c)).setCell ⟨g,j*4+2,none⟩ (.bool t)).setCell ⟨g,j*4+3,none⟩ (.slice q m d)) g N k':=by
 have J:=I32.put4 h.sts (j*4) (j*4+1) (j*4+2) (j*4+3) (.bool s) (.slice p n c) (.bool t) (.slice q m d) (NotInt.bool _) (NotInt.slice _ _ _) (NotInt.bool _);have s1:=h.sts.put ⟨g,j*4,none⟩ (.bool s) (NotInt.bool _);have s2:=s1.put ⟨g,j*4+1,none⟩ (.slice p n c) (NotInt.slice _ _ _);have s3:=s2.put ⟨g,j*4+2,none⟩ (.bool t) (NotInt.bool _);have s4:=s3.put ⟨g,j*4+3,none⟩ (.slice q m d) (NotInt.slice _ _ _);refine⟨s4,λi O=>Ao (Ao (Ao (Ao (h.free i O)))),λi O=>Ai (Ai (Ai (Ai (h.has i O)))),λi O=>?_⟩;by_cases hij:i=j
 ·subst hij
  have c0:=h.has (i*4) (by omega);have c1:=Ai (R:=g) (i:=i*4) (u:=.bool s) (h.has (i*4+1) (by omega));have c2:=Ai (R:=g) (i:=i*4+1) (u:=.slice p n c) (Ai (R:=g) (i:=i*4) (u:=.bool s) (h.has (i*4+2) (by omega)));have c3:=Ai (R:=g) (i:=i*4+2) (u:=.bool t) (Ai (R:=g) (i:=i*4+1) (u:=.slice p n c) (Ai (R:=g) (i:=i*4) (u:=.bool s) (h.has (i*4+3) (by omega))));refine⟨s,p,n,c,t,q,m,d,?_,?_,?_,?_,hG _ _ _ _ _ _ _ _ _ _ J hq⟩
  ·rw[World.cell?_setCell_other _ _ _ _ (by simp),World.cell?_setCell_other _ _ _ _ (by simp),World.cell?_setCell_other _ _ _ _ (by simp),World.cell?_setCell_same' _ _ _ c0]
  ·rw[World.cell?_setCell_other _ _ _ _ (by simp),World.cell?_setCell_other _ _ _ _ (by simp),World.cell?_setCell_same' _ _ _ c1]
  ·rw[World.cell?_setCell_other _ _ _ _ (by simp),World.cell?_setCell_same' _ _ _ c2]
  ·rw[World.cell?_setCell_same' _ _ _ c3]
 ·obtain⟨U,e⟩:=hk i O hij
  obtain⟨s',p',n',V,t',q',m',Y,Z,e1,e2,e3,e4⟩:=h.val i U;rw[<-e]
  have I:∀(x:Nat) (v:Value),i*4<=x->x<i*4+4->w.cell? ⟨g,x,none⟩=some v->((((w.setCell ⟨g,j*4,none⟩ (.bool s)).setCell ⟨g,j*4+1,none⟩ (.slice p n c)).setCell ⟨g,j*4+2,none⟩ (.bool t)).setCell ⟨g,j*4+3,none⟩ (.slice q m d)).cell? ⟨g,x,none⟩=some v:=by
   intro x v cB cC hv;rw[World.cell?_setCell_other _ _ _ _ (by simp <;> omega),World.cell?_setCell_other _ _ _ _ (by simp <;> omega),World.cell?_setCell_other _ _ _ _ (by simp <;> omega),World.cell?_setCell_other _ _ _ _ (by simp <;> omega)];exact hv
  exact⟨s',p',n',V,t',q',m',Y,I _ _ (by omega) (by omega) Z,I _ _ (by omega) (by omega) e1,I _ _ (by omega) (by omega) e2,I _ _ (by omega) (by omega) e3,hF i _ _ _ _ _ _ _ _ _ _ J e4⟩
def QX (P:FP) (w:World) (xs:List Value) (i:Nat):Prop:=∃s p n c t q m d,xs[i]?=some (.bool s)/\xs[i+1]?=some (.slice p n c)/\xs[i+2]?=some (.bool t)/\xs[i+3]?=some (.slice q m d)/\P w s p n c t q m d
def OwnQ (F:Nat->FP) (w:World) (B:Nat) (v:Value) (n:Nat):Prop:=∃xs,OwnK NotInt w B 86 4 v n xs/\∀j,j<n->QX (F j) w xs (j*4)
theorem OwnQ.nil (F:Nat->FP) (w:World) (B:Nat):OwnQ F w B (.slice none 0 0) 0:=⟨[],OwnK.nil _ _ _ _ _,λ_ I=>absurd I (Nat.not_lt_zero _)⟩
theorem QX.i32 {P:FP} (Z:Bu P) {w w':World} (h:I32 w w') {I:List Value} {i:Nat} (hx:QX P w I i):QX P w' I i:=by
 obtain⟨s,p,n,c,t,q,m,d,J,O,U,V,Y⟩:=hx;exact⟨s,p,n,c,t,q,m,d,J,O,U,V,Z _ _ _ _ _ _ _ _ _ _ h Y⟩
theorem OwnQ.keep {F:Nat->FP} (hF:∀j,Bu (F j)) {w w':World} {B n:Nat} {v:Value} (h:OwnQ F w B v n) (I:Below w.heap.size w w'):OwnQ F w' B v n:=by
 obtain⟨V,J,O⟩:=h;exact⟨V,J.keep I,λj U=>(O j U).i32 (hF j) (I32.below I)⟩
theorem QX.app {P:FP} {w:World} {I U:List Value} {i:Nat} (h:QX P w I i):QX P w (I++U) i:=by
 obtain⟨s,p,n,c,t,q,m,d,V,Y,Z,h3,h4⟩:=h
 have J:∀(j:Nat) (v:Value),I[j]?=some v->(I++U)[j]?=some v:=by
  intro j v e;rw[List.getElem?_append_left]
  ·exact e
  ·rcases Nat.lt_or_ge j I.length with hlt|O
   ·exact hlt
   ·rw[List.getElem?_eq_none O]at e;cases e
 exact⟨s,p,n,c,t,q,m,d,J _ _ V,J _ _ Y,J _ _ Z,J _ _ h3,h4⟩
theorem OwnQ.push {F:Nat->FP} (hF:∀j,Bu (F j)) {W w':World} {B n:Nat} {v V:Value} {O:List Value} (U:OwnK NotInt W B 86 4 v n O) (Y:∀j,j<n->QX (F j) W O (j*4))
  {s t:Bool} {p q:Option Addr} {k c m d:Nat} (hq:F n W s p k c t q m d) (Z:OwnK NotInt w' B 86 4 V (n+1) (O++[.bool s,.slice p k c,.bool t,.slice q m d])) (hg:W.grownBy w' v.ownBlock):OwnQ F w' B V (n+1):=by
 have I:=I32.grown (K:=NotInt) (λx=>Gn x) U.2 hg;refine⟨_,Z,λj h=>?_⟩;by_cases hjn:j<n
 ·exact((Y j hjn).i32 (hF j) I).app
 ·obtain rfl:j=n:=by omega
  have J:O.length=j*4:=U.1.1;refine⟨s,p,k,c,t,q,m,d,?_,?_,?_,?_,hF j _ _ _ _ _ _ _ _ _ _ I hq⟩
  ·rw[List.getElem?_append_right (by omega),J,show j*4 - j*4=0 by omega];rfl
  ·rw[List.getElem?_append_right (by omega),J,show j*4+1 - j*4=1 by omega];rfl
  ·rw[List.getElem?_append_right (by omega),J,show j*4+2 - j*4=2 by omega];rfl
  ·rw[List.getElem?_append_right (by omega),J,show j*4+3 - j*4=3 by omega];rfl
theorem OwnQ.row {F:Nat->FP} {w:World} {B n:Nat} {v:Value} (h:OwnQ F w B v n):(n=0/\v=.slice none 0 0)∨∃g cap,v=.slice (some ⟨g,0,none⟩) n cap/\B<=g/\QRow F w g n n:=by
 obtain⟨O,I,h2⟩:=h;rcases De I.1 with⟨rfl,rfl,_⟩ |⟨g,cap,rfl,hB,hg,hc⟩
 ·exact .inl ⟨rfl,rfl⟩
 ·right
  have hl:O.length=n*4:=I.1.1;have hs:=I.2 g rfl;refine⟨g,cap,rfl,hB,⟨hs,?_,?_,?_⟩⟩
  ·intro i hi
   rcases M0 I.1 with J |⟨g',cs,J,_,h4⟩
   ·simp[Value.ownBlock]at J
   ·simp[Value.ownBlock]at J
    subst J;exact h4.free_ i
  ·intro i hi
   rw[An I.1 (List.getElem?_eq_getElem (by omega:i<O.length))];rfl
  ·intro j hj
   obtain⟨s,p,n',c,t,q,m,d,U,V,Y,Z,e4⟩:=h2 j hj;exact⟨s,p,n',c,t,q,m,d,An I.1 U,An I.1 V,An I.1 Y,An I.1 Z,e4⟩
theorem OwnQ.ql {F:Nat->FP} {w:World} {B n:Nat} {v:Value} (h:OwnQ F w B v n):QL F w v n:=by
 rcases h.row with⟨rfl,rfl⟩ |⟨g,cap,rfl,_,hr⟩
 ·exact .inl ⟨rfl,_,_,rfl⟩
 ·exact hr.ql cap
def lJ (neg:Bool) (v:Nat) (S:Nat) (w:World) (u:Value) (wr:World):Prop:=
 Blk wr S 84 #[.bool false,.slice none 0 0]/\Below S w wr/\S<wr.heap.size /\
 ((u=.int .u64 (v:Nat)/\Blk wr (S+1) 84 #[.bool neg,.slice none 0 0]) ∨
  (u=.int .u64 0/\v≠0/\∃p c,Blk wr (S+1) 84 #[.bool neg,.slice p 1 c]/\Dg wr p c 1 (λ_=>v)))
theorem nF (n:Int) (w:World) (h1:-2147483648<=n) (h2:n<=2147483648):
  Calls prog 110 #[.int .i64 n] w λe w'=>Gx w' e n/\Below w.heap.size w w':=by
 obtain⟨v,hv⟩:∃v:Nat,n.natAbs=v:=⟨_,rfl⟩
 have dE:v<4294967296:=by omega
 have cT:(v:Int) % 4294967296=(v:Nat):=by omega
 have cG:(v:Int) / 4294967296=0:=by omega
 have HV:=Kh (show sg (decide (n<0)) v=n by rw[<-hv];exact Ok n);have cA:=Kh (show v=0->n=0 by omega);have dC:=Kh dE;clear dE;by_cases hneg:n<0
 ·have e1:IntKind.u64.wrap n=n+18446744073709551616:=by rw[IntKind.wrap_u64];omega
  have e2:IntKind.u64.wrap (-(n+18446744073709551616))=(v:Nat):=by rw[IntKind.wrap_u64];omega
  have e3:IntKind.u64.wrap (-n)=(v:Nat):=by rw[IntKind.wrap_u64];omega
  have hd:decide (n<0)=true:=decide_eq_true hneg;rw[hd]at HV;have dY:v≠0:=by omega
  clear h1 h2 hv;go_enter func110,ntmps110
  go_wp2;obtain⟨w0,bC,O,U,I⟩:=bx2 w #[.bool false,.slice none 0 0] 84 #[.bool true,.slice none 0 0] 84;rw[bC];have bA:=Kh (show lJ true v w.heap.size w (.int .u64 (v:Nat)) w0 from⟨O,I,O.lt,.inl ⟨rfl,U⟩⟩);clear bC O U I;go_loopw [3] (λu wr=>lJ true v w.heap.size w u wr) (λu _=>(intOf u).toNat)
  case atStart=>exact bA.1
  case round=>
   obtain⟨O,I,hlt,⟨rfl,U⟩ |⟨rfl,h,p,c,U,hd⟩⟩:=hrel
   ·clear bA
    by_cases h:v=0
    ·exact absurd h dY
    ·have a0:=U.at_ 0 rfl
     have a1:=U.at_ 1 rfl;have Y:=Kh O;have J:=Kh U;have HB:=Kh I;have hD:(v:Int) > 0:=by omega
     clear O U I;go_wp2_with (at_builtin;refine Q1 rfl (.tmp 17) (.tmp 20) _ 200 rfl Qz aK rfl (by decide) wr.heap.size 0 (.slice none 0 0) [] [.int .u32 (v:Nat)] rfl (World.ownsRow_nil _ _ _ _) rfl rfl (fF v) (by omega) (by omega) (nR _) ?_;intro v' w' V Z cF;obtain⟨p9,c9,rfl,bB⟩:=Dg.of_own (n:=1) (a:=λ_=>v) V (λ_ _=>dC.1);have Y:=Kh (Y.1.grown_ Z (by simp[Value.ownBlock]));have J:=Kh (J.1.grown_ Z (by simp[Value.ownBlock]));have HB:=Kh (HB.1.grown Z HB.1.size (by intro k hk;simp[Value.ownBlock]at hk));have b0:w'.cell? ⟨w.heap.size+1,0,none⟩=some (.bool true):=J.1.at_ 0 rfl;have b1:w'.cell? ⟨w.heap.size+1,1,none⟩=some (.slice none 0 0):=J.1.at_ 1 rfl;have f1:w'.frozen? ⟨w.heap.size+1,1,none⟩=false:=J.1.free_ 1;have cC:=Kh bB;clear V Z cF bB)
     go_roundw
     case rel=>
      refine⟨Y.1.far_ (by simp) _,HB.1.setCell (by simp) _,nT Y.1.lt (by simp),.inr ⟨rfl,h,p9,c9,J.1.set_ 1 _,?_⟩⟩;exact cC.1.put (Sts.box J.1) 1 _
     case measure=>simp[intOf];omega
   ·have a0:=U.at_ 0 rfl
    have a1:=U.at_ 1 rfl;have z0:=O.at_ 0 rfl;have z1:=O.at_ 1 rfl;have f0:=O.free_ 0;have f1:=O.free_ 1;have HB:=Kh I
    have bE:Zs wr true p 1 c n:=by
     have h1:=Dg.norm hd (.inr h);rw[show vf (λ_=>v) 1=v from by simp[vf]]at h1;have h2:=Q5 (s:=true) (t:=true) h1.2 h1.1 (by simp);rwa [HV.1]at h2
    have HZ:=Kh (bE.put2 (Sts.box O) 0 1 (.bool true) (.slice p 1 c) (NotInt.bool _));clear O U I hlt cT cG HV cA hd bE bA;go_wp2;refine bodyPost_ret (by simp[results,results110,go_sem,z0,z1];try rfl) rfl ?_;exact⟨⟨_,p,1,c,rfl,HZ.1⟩,(HB.1.setCell (nR _) _).setCell (nR _) _⟩
 ·have e1:IntKind.u64.wrap n=(v:Nat):=by rw[IntKind.wrap_u64];omega
  have hd:decide (n<0)=false:=decide_eq_false hneg;rw[hd]at HV;clear h1 h2 hv;go_enter func110,ntmps110
  go_wp2;obtain⟨w0,bC,O,U,I⟩:=bx2 w #[.bool false,.slice none 0 0] 84 #[.bool false,.slice none 0 0] 84;rw[bC];have bA:=Kh (show lJ false v w.heap.size w (.int .u64 (v:Nat)) w0 from⟨O,I,O.lt,.inl ⟨rfl,U⟩⟩);clear bC O U I;go_loopw [3] (λu wr=>lJ false v w.heap.size w u wr) (λu _=>(intOf u).toNat)
  case atStart=>exact bA.1
  case round=>
   obtain⟨O,I,hlt,⟨rfl,U⟩ |⟨rfl,h,p,c,U,hd⟩⟩:=hrel
   ·clear bA
    by_cases h:v=0
    ·subst h
     obtain rfl:n=0:=cA.1 rfl;have a0:=U.at_ 0 rfl;have a1:=U.at_ 1 rfl;have z0:=O.at_ 0 rfl;have z1:=O.at_ 1 rfl;have f0:=O.free_ 0;have f1:=O.free_ 1;have HB:=Kh I;clear O U I hlt cT cG HV cA;go_wp2;refine bodyPost_ret (by simp[results,results110,go_sem,z0,z1];try rfl) rfl ?_;exact⟨⟨_,none,0,0,rfl,rfl,rfl,Nm.nil _⟩,(HB.1.setCell (nR _) _).setCell (nR _) _⟩
    ·have a0:=U.at_ 0 rfl
     have a1:=U.at_ 1 rfl;have Y:=Kh O;have J:=Kh U;have HB:=Kh I;have hD:(v:Int) > 0:=by omega
     clear O U I;go_wp2_with (at_builtin;refine Q1 rfl (.tmp 17) (.tmp 20) _ 200 rfl Qz aK rfl (by decide) wr.heap.size 0 (.slice none 0 0) [] [.int .u32 (v:Nat)] rfl (World.ownsRow_nil _ _ _ _) rfl rfl (fF v) (by omega) (by omega) (nR _) ?_;intro v' w' V Z cF;obtain⟨p9,c9,rfl,bB⟩:=Dg.of_own (n:=1) (a:=λ_=>v) V (λ_ _=>dC.1);have Y:=Kh (Y.1.grown_ Z (by simp[Value.ownBlock]));have J:=Kh (J.1.grown_ Z (by simp[Value.ownBlock]));have HB:=Kh (HB.1.grown Z HB.1.size (by intro k hk;simp[Value.ownBlock]at hk));have b0:w'.cell? ⟨w.heap.size+1,0,none⟩=some (.bool false):=J.1.at_ 0 rfl;have b1:w'.cell? ⟨w.heap.size+1,1,none⟩=some (.slice none 0 0):=J.1.at_ 1 rfl;have f1:w'.frozen? ⟨w.heap.size+1,1,none⟩=false:=J.1.free_ 1;have cC:=Kh bB;clear V Z cF bB)
     go_roundw
     case rel=>
      refine⟨Y.1.far_ (by simp) _,HB.1.setCell (by simp) _,nT Y.1.lt (by simp),.inr ⟨rfl,h,p9,c9,J.1.set_ 1 _,?_⟩⟩;exact cC.1.put (Sts.box J.1) 1 _
     case measure=>simp[intOf];omega
   ·have a0:=U.at_ 0 rfl
    have a1:=U.at_ 1 rfl;have z0:=O.at_ 0 rfl;have z1:=O.at_ 1 rfl;have f0:=O.free_ 0;have f1:=O.free_ 1;have HB:=Kh I
    have bE:Zs wr false p 1 c n:=by
     have h1:=Dg.norm hd (.inr h);rw[show vf (λ_=>v) 1=v from by simp[vf]]at h1;have h2:=Q5 (s:=false) (t:=false) h1.2 h1.1 (by simp);rwa [HV.1]at h2
    have HZ:=Kh (bE.put2 (Sts.box O) 0 1 (.bool false) (.slice p 1 c) (NotInt.bool _));clear O U I hlt cT cG HV cA hd bE bA;go_wp2;refine bodyPost_ret (by simp[results,results110,go_sem,z0,z1];try rfl) rfl ?_;exact⟨⟨_,p,1,c,rfl,HZ.1⟩,(HB.1.setCell (nR _) _).setCell (nR _) _⟩
theorem lR (n:Int) (w:World) (h1:-2147483648<=n) (h2:n<=2147483648):
  Calls prog 78 #[.int .i64 n] w λe w'=>Eg w' e (n:Rat)/\Below w.heap.size w w':=by
 have h:=Kh (λw1=>nF n w1 h1 h2);have aX:=Kh (λw1=>nF 1 w1 (by omega) (by omega));clear h1 h2;go_enter func78,ntmps78
 go_wp2_with fail
 obtain⟨w0,bE,X0,U⟩:=bx1 w #[.bool false,.slice none 0 0,.bool false,.slice none 0 0] 86;rw[bE];have bC:w.heap.size<=w0.heap.size:=U.size;clear bE;refine(h.1 w0).mono ?_;rintro e w1 ⟨⟨s2,p2,n2,e2,rfl,bY⟩,V⟩;have HA:=Kh bY;have Y:=Kh (U.trans (V.mono bC));have Z:=Kh (X0.below_ V X0.lt);clear bY U V X0 bC h;go_wp2_with fail
 refine(aX.1 w1).mono ?_;rintro e w4 ⟨⟨s3,p3,n3,e3,rfl,cA⟩,J⟩
 have HQ:=Kh (show Qs w4 s2 p2 n2 e2 s3 p3 n3 e3 (n:Rat)by
  unfold Qs;rw[Rat.num_intCast,Rat.den_intCast];exact⟨HA.1.keep J,cA⟩)
 have I:=Kh (bk Z J);have HB:=bt Y J;have HG:=Kh (rfl:(n:Rat)=(n:Rat));clear cA J aX Y Z HA;have r0:=I.1.at_ 0 rfl;have r1:=I.1.at_ 1 rfl;have r2:=I.1.at_ 2 rfl;have r3:=I.1.at_ 3 rfl;have f0:=I.1.free_ 0;have f1:=I.1.free_ 1;have f2:=I.1.free_ 2;have f3:=I.1.free_ 3;obtain⟨w9,O⟩:∃w9,(((w4.setCell ⟨w.heap.size,0,none⟩ (.bool s2)).setCell ⟨w.heap.size,1,none⟩ (.slice p2 n2 e2)).setCell ⟨w.heap.size,2,none⟩ (.bool s3)).setCell ⟨w.heap.size,3,none⟩ (.slice p3 n3 e3)=w9:=⟨_,rfl⟩
 obtain⟨E0,E1,E2,E3,bB⟩:=Cd I.1 HQ.1 O;have bA:Below w.heap.size w w9:=by rw[<-O];exact As HB.1 (by omega) _ _ _ _
 have dE:=Kh O;have cX:=Kh (And.intro E0 (And.intro E1 (And.intro E2 E3)));have dC:=Kh bB;have cT:=Kh bA;clear E0 E1 E2 E3 bB bA O HQ HB I;go_wp2;try rw[dE.1]
 obtain⟨E0,E1,E2,E3⟩:=cX.1;try simp only[Exit.inBlock,Exit.then]
 refine bodyPost_ret (by simp[results,results78,go_sem,E0,E1,E2,E3];try rfl) rfl ?_;exact⟨⟨s2,p2,n2,e2,s3,p3,n3,e3,rfl,dC.1⟩,cT.1⟩
theorem Us (s:Bool) (p:Option Addr) (n c:Nat) (t:Bool) (q:Option Addr) (m d:Nat) (x:Rat) (s':Bool) (p':Option Addr) (n' c':Nat) (t':Bool) (q':Option Addr) (m' d':Nat) (y:Rat) (w:World) (h:Qs w s p n c t q m d x) (h':Qs w s' p' n' c' t' q' m' d' y) (hx:hq x<=35184372088830):
  Calls prog 72 #[.agg #[.bool s,.slice p n c,.bool t,.slice q m d],.agg #[.bool s',.slice p' n' c',.bool t',.slice q' m' d']] w λe w'=>e=.returned (.bool (decide (x=y)))/\Below w.heap.size w w':=by
 obtain⟨r,hr⟩:∃r,decide (x=y)=r:=⟨_,rfl⟩
 rw[hr];have HR:=Kh hr;have HS:=Kh h.sizes;have H1:=Kh (λY (Z:Below w.heap.size w Y)=>Mj s p n c x.num s' p' n' c' y.num Y (h.1.keep Z) (h'.1.keep Z) (by have:=h.sizes;omega));have H2:=Kh (λY (Z:Below w.heap.size w Y)=>Mj t q m d x.den t' q' m' d' y.den Y (h.2.keep Z) (h'.2.keep Z) (by have:=h.sizes;omega));clear h h' hx hr;go_enter func72,ntmps72
 go_wp2_with fail
 obtain⟨w0,bA,X0,X1,V⟩:=bx2 w #[.bool s,.slice p n c,.bool t,.slice q m d] 86 #[.bool s',.slice p' n' c',.bool t',.slice q' m' d'] 86;rw[bA];have eP:w.heap.size<=w0.heap.size:=V.size;clear bA;have a0:=X0.at_ 0 rfl;have a1:=X0.at_ 1 rfl;have b0:=X1.at_ 0 rfl;have b1:=X1.at_ 1 rfl;have J:=Kh X0;have O:=Kh X1;have HB:=Kh V;clear X0 X1 V eP;refine(H1.1 w0 HB.1).mono ?_;rintro e Y ⟨rfl,U⟩;have I:=bt HB U;replace J:=Kh (bk J U);replace O:=Kh (bk O U);have a2:=J.1.at_ 2 rfl;have a3:=J.1.at_ 3 rfl;have b2:=O.1.at_ 2 rfl;have b3:=O.1.at_ 3 rfl;clear U a0 a1 b0 b1 HB H1;by_cases h1:x.num=y.num
 ·rw[decide_eq_true h1]
  go_wp2_with fail
  refine(H2.1 Y I.1).mono ?_;rintro e w2 ⟨rfl,aX⟩;have dC:=bt I aX;obtain⟨z,hz⟩:∃z,decide ((x.den:Int)=y.den)=z:=⟨_,rfl⟩
  have HE:=Kh (show z=r by
   rw[<-HR.1,<-hz,decide_eq_decide];exact⟨λh=>Rat.ext h1 (by omega),λh=>by rw[h]⟩)
  rw[hz];clear aX H2 I hz h1 HR;go_wp2;go_ret;exact⟨C7 HE.1,dC.1⟩
 ·rw[decide_eq_false h1]
  have HE:=Kh (show false=r by
   rw[<-HR.1];exact(decide_eq_false λh=>h1 (by rw[h])).symm)
  clear H2 h1 HR;go_wp2;go_ret;exact⟨C7 HE.1,I.1⟩
theorem L5 (v1 v2:Value) (n:Nat) (f:Nat->Rat) (w:World) (Z:QL (λj=>IsQ (f j)) w v1 n) (h2:QL (λj=>IsQ (f j)) w v2 n) (hn:n<=1000000) (hf:∀j,j<n->hq (f j)<=35184372088830):
  Calls prog 27 #[v1,v2] w λe w'=>e=.returned (.bool true)/\Below w.heap.size w w':=by
 rcases Nat.eq_zero_or_pos n with rfl|gA
 ·have e1:∃a c,v1=.slice a 0 c:=by
   rcases Z with⟨_,h⟩ |⟨_,_,_,e,_⟩
   ·exact h
   ·exact⟨_,_,e⟩
  have e2:∃a c,v2=.slice a 0 c:=by
   rcases h2 with⟨_,h⟩ |⟨_,_,_,e,_⟩
   ·exact h
   ·exact⟨_,_,e⟩
  obtain⟨a1,c1,rfl⟩:=e1;obtain⟨a2,c2,rfl⟩:=e2;clear Z h2 hf hn;go_enter func27,ntmps27
  go_wp2;go_loopw [5] (λi wr=>i=.int .i64 0/\wr=w) (λ_ _=>0)
  case atStart=>exact⟨rfl,rfl⟩
  case round=>
   obtain⟨rfl,rfl⟩:=hrel;go_wp2;go_ret;exact⟨rfl,Below.refl _ _⟩
 ·obtain⟨V,o1,l1,rfl,hM,r1⟩:=Z.resolve_left (λh=>by omega)
  obtain⟨Y,o2,l2,rfl,hN,r2⟩:=h2.resolve_left (λh=>by omega);have R1:=Kh r1;have R2:=Kh r2;have HF:=Kh hf;clear Z h2 r1 r2 hf;go_enter func27,ntmps27
  go_wp2;go_loopw [5] (λi wr=>∃k:Nat,k<=n/\i=.int .i64 k/\Below w.heap.size w wr) (λi _=>n - (intOf i).toNat)
  case atStart=>exact⟨0,Nat.zero_le _,rfl,Below.refl _ _⟩
  case round=>
   obtain⟨k,hk,rfl,J⟩:=hrel;by_cases hlt:k<n
   ·have U:=Kh J
    obtain⟨s,p,i1,c,t,q,m,d,a0,a1,a2,a3,hx⟩:=(R1.1 k hlt).keep (IsQ.solid _) J;obtain⟨s',p',O,c',t',q',m',d',b0,b1,b2,b3,hy⟩:=(R2.1 k hlt).keep (IsQ.solid _) J;have HC:=Kh (λI (h:Below wr.heap.size wr I)=>Us s p i1 c t q m d (f k) s' p' O c' t' q' m' d' (f k) I (Qs.keep hx h) (Qs.keep hy h) (HF.1 k hlt));simp only[decide_true]at HC;clear hx hy J;go_upto_region 6 with(fail)
    have cA:=Ei (Below.refl _ wr).drew ⟨a0,a1,a2,a3,b0,b1,b2,b3,Below.refl _ _,Below.size (show Below wr.heap.size wr wr from Below.refl _ _)⟩;clear a0 a1 a2 a3 b0 b1 b2 b3;have M1:True:=trivial
    go_region_held3 (λI=>I.cell? ⟨V,o1+k*4,none⟩=some (.bool s)/\I.cell? ⟨V,o1+k*4+1,none⟩=some (.slice p i1 c)/\I.cell? ⟨V,o1+k*4+2,none⟩=some (.bool t)/\I.cell? ⟨V,o1+k*4+3,none⟩=some (.slice q m d)/\I.cell? ⟨Y,o2+k*4,none⟩=some (.bool s')/\I.cell? ⟨Y,o2+k*4+1,none⟩=some (.slice p' O c')/\I.cell? ⟨Y,o2+k*4+2,none⟩=some (.bool t')/\I.cell? ⟨Y,o2+k*4+3,none⟩=some (.slice q' m' d')/\Below wr.heap.size wr I/\wr.heap.size<=I.heap.size)
     (first|with_reducible exact cA |(refine Ei (by with_reducible assumption) ?_;assumption))
     (first
      |(go_at_call 72;refine(HC.1 _ (Db (by with_reducible assumption))).mono ?_;rintro e w2 ⟨rfl,cB⟩;have bC:=Kh (Below.trans U.1 (Below.mono (Below.trans (Db (by with_reducible assumption)) (Below.mono cB (Below.size (Db (by with_reducible assumption))))) U.1.size))))
    go_wp2;go_roundw
    case rel=>exact⟨k+1,by omega,by go_num,bC.1⟩
    case measure=>simp[intOf];omega
   ·obtain rfl:k=n:=by omega
    have U:=Kh J;clear J;go_wp2;go_ret;exact⟨rfl,U.1⟩
theorem Gt:(prog.info? 86).map (λi=>(i.zero,i.size,i.bytes))=some (some (.agg #[.bool false,.slice none 0 0,.bool false,.slice none 0 0]),4,64):=by kernel_rfl
theorem mZ (s t:Bool) (p q:Option Addr) (n c m d:Nat):∀u∈[Value.bool s,.slice p n c,.bool t,.slice q m d],u.oneCell'=true:=by
 intro u I;simp at I;rcases I with rfl|rfl|rfl|rfl <;> rfl
theorem nP (s t:Bool) (p q:Option Addr) (n c m d:Nat):∀u∈[Value.bool s,.slice p n c,.bool t,.slice q m d],NotInt u:=by
 intro u I;simp at I;rcases I with rfl|rfl|rfl|rfl <;> first|exact NotInt.bool _|exact NotInt.slice _ _ _
theorem lB:∀u∈(Value.agg #[.bool false,.slice none 0 0,.bool false,.slice none 0 0]).cells.toList,NotInt u:=by
 intro u I;simp[Value.cells]at I;rcases I with rfl|rfl|rfl|rfl <;> first|exact NotInt.bool _|exact NotInt.slice _ _ _
def ZE (z:Int) (w:World) (g i:Nat):Prop:=∃s p n c,w.cell? ⟨g,i,none⟩=some (.bool s)/\w.cell? ⟨g,i+1,none⟩=some (.slice p n c)/\Zs w s p n c z
theorem ZE.keep {z:Int} {w w':World} {g i:Nat} (h:ZE z w g i) (I:Below w.heap.size w w'):ZE z w' g i:=by
 obtain⟨s,p,n,c,O,U,V⟩:=h;have J:∀j v,w.cell? ⟨g,j,none⟩=some v->w'.cell? ⟨g,j,none⟩=some v:=λj v e=>(I.cell (p:=⟨g,j,none⟩) (World.block_lt_of_cell? w ⟨g,j,none⟩ e)).trans e
 exact⟨s,p,n,c,J _ _ O,J _ _ U,V.i32 (I32.below I)⟩
def ZL (f:Nat->Int) (w:World) (v:Value) (n:Nat):Prop:=(n=0/\∃a c,v=.slice a 0 c)∨∃g o cap,v=.slice (some ⟨g,o,none⟩) n cap/\g<w.heap.size/\∀j,j<n->ZE (f j) w g (o+j*2)
theorem ZL.keep {f:Nat->Int} {w w':World} {v:Value} {n:Nat} (h:ZL f w v n) (I:Below w.heap.size w w'):ZL f w' v n:=by
 rcases h with h |⟨g,o,cap,e,hg,J⟩
 ·exact .inl h
 ·exact .inr ⟨g,o,cap,e,nT hg I.size,λj O=>(J j O).keep I⟩
structure ZRow (f:Nat->Int) (w:World) (g N k:Nat):Prop where
 sts:Sts w g
 free:∀i,i<N*2->w.frozen? ⟨g,i,none⟩=false
 has:∀i,i<N*2->(w.cell? ⟨g,i,none⟩).isSome=true
 val:∀j,j<k->ZE (f j) w g (j*2)
theorem ZRow.keep {f:Nat->Int} {w w':World} {g N k:Nat} (h:ZRow f w g N k) (I:Below w.heap.size w w'):ZRow f w' g N k:=
 ⟨h.sts.next I,λi J=>Ab I (h.has i J) (h.free i J),λi J=>by rw[I.cell (p:=⟨g,i,none⟩) h.sts.1];exact h.has i J,λj O=>(h.val j O).keep I⟩
theorem ZRow.congr {f I:Nat->Int} {w:World} {g N k:Nat} (h:ZRow f w g N k) (e:∀j,j<k->f j=I j):ZRow I w g N k:=⟨h.sts,h.free,h.has,λj J=>by rw[<-e j J];exact h.val j J⟩
theorem ZRow.set {f:Nat->Int} {w:World} {g N k k':Nat} (h:ZRow f w g N k) (j:Nat) (hj:j<N) (U:Nat->Int) (hk:∀i,i<k'->i≠j->i<k/\f i=U i)
  {s:Bool} {p:Option Addr} {n c:Nat} (hq:Zs w s p n c (U j)):
  ZRow U ((w.setCell ⟨g,j*2,none⟩ (.bool s)).setCell ⟨g,j*2+1,none⟩ (.slice p n c)) g N k':=by
 have J:=I32.put2 h.sts (j*2) (j*2+1) (.bool s) (.slice p n c) (NotInt.bool _);have s1:=h.sts.put ⟨g,j*2,none⟩ (.bool s) (NotInt.bool _);have s2:=s1.put ⟨g,j*2+1,none⟩ (.slice p n c) (NotInt.slice _ _ _);refine⟨s2,λi O=>Ao (Ao (h.free i O)),λi O=>Ai (Ai (h.has i O)),λi O=>?_⟩;by_cases hij:i=j
 ·subst hij
  have c0:=h.has (i*2) (by omega);have c1:=Ai (R:=g) (i:=i*2) (u:=.bool s) (h.has (i*2+1) (by omega));refine⟨s,p,n,c,?_,?_,hq.i32 J⟩
  ·rw[World.cell?_setCell_other _ _ _ _ (by simp),World.cell?_setCell_same' _ _ _ c0]
  ·rw[World.cell?_setCell_same' _ _ _ c1]
 ·obtain⟨V,e⟩:=hk i O hij
  obtain⟨s',p',n',Y,Z,e1,e4⟩:=h.val i V;rw[<-e]
  have I:∀(x:Nat) (v:Value),i*2<=x->x<i*2+2->w.cell? ⟨g,x,none⟩=some v->((w.setCell ⟨g,j*2,none⟩ (.bool s)).setCell ⟨g,j*2+1,none⟩ (.slice p n c)).cell? ⟨g,x,none⟩=some v:=by
   intro x v bE bY hv;rw[World.cell?_setCell_other _ _ _ _ (by simp <;> omega),World.cell?_setCell_other _ _ _ _ (by simp <;> omega)];exact hv
  exact⟨s',p',n',Y,I _ _ (by omega) (by omega) Z,I _ _ (by omega) (by omega) e1,e4.i32 J⟩
def ZX (z:Int) (w:World) (xs:List Value) (i:Nat):Prop:=∃s p n c,xs[i]?=some (.bool s)/\xs[i+1]?=some (.slice p n c)/\Zs w s p n c z
def OwnZ (f:Nat->Int) (w:World) (B:Nat) (v:Value) (n:Nat):Prop:=∃xs,OwnK NotInt w B 84 2 v n xs/\∀j,j<n->ZX (f j) w xs (j*2)
theorem OwnZ.nil (f:Nat->Int) (w:World) (B:Nat):OwnZ f w B (.slice none 0 0) 0:=⟨[],OwnK.nil _ _ _ _ _,λ_ I=>absurd I (Nat.not_lt_zero _)⟩
theorem ZX.i32 {z:Int} {w w':World} (h:I32 w w') {I:List Value} {i:Nat} (V:ZX z w I i):ZX z w' I i:=by
 obtain⟨s,p,n,c,J,O,U⟩:=V;exact⟨s,p,n,c,J,O,U.i32 h⟩
theorem OwnZ.keep {f:Nat->Int} {w w':World} {B n:Nat} {v:Value} (h:OwnZ f w B v n) (I:Below w.heap.size w w'):OwnZ f w' B v n:=by
 obtain⟨V,J,O⟩:=h;exact⟨V,J.keep I,λj U=>(O j U).i32 (I32.below I)⟩
theorem ZX.app {z:Int} {w:World} {I U:List Value} {i:Nat} (h:ZX z w I i):ZX z w (I++U) i:=by
 obtain⟨s,p,n,c,V,Y,Z⟩:=h
 have O:∀(j:Nat) (v:Value),I[j]?=some v->(I++U)[j]?=some v:=by
  intro j v e;rw[List.getElem?_append_left]
  ·exact e
  ·rcases Nat.lt_or_ge j I.length with hlt|J
   ·exact hlt
   ·rw[List.getElem?_eq_none J]at e;cases e
 exact⟨s,p,n,c,O _ _ V,O _ _ Y,Z⟩
theorem OwnZ.push {f:Nat->Int} {W w':World} {B n:Nat} {v V:Value} {J:List Value} (O:OwnK NotInt W B 84 2 v n J) (Y:∀j,j<n->ZX (f j) W J (j*2))
  {s:Bool} {p:Option Addr} {k c:Nat} (hq:Zs W s p k c (f n)) (Z:OwnK NotInt w' B 84 2 V (n+1) (J++[.bool s,.slice p k c])) (hg:W.grownBy w' v.ownBlock):OwnZ f w' B V (n+1):=by
 have I:=I32.grown (K:=NotInt) (λx=>Gn x) O.2 hg;refine⟨_,Z,λj h=>?_⟩;by_cases hjn:j<n
 ·exact((Y j hjn).i32 I).app
 ·obtain rfl:j=n:=by omega
  have U:J.length=j*2:=O.1.1;refine⟨s,p,k,c,?_,?_,hq.i32 I⟩
  ·rw[List.getElem?_append_right (by omega),U,show j*2 - j*2=0 by omega];rfl
  ·rw[List.getElem?_append_right (by omega),U,show j*2+1 - j*2=1 by omega];rfl
theorem OwnZ.row {f:Nat->Int} {w:World} {B n:Nat} {v:Value} (h:OwnZ f w B v n):(n=0/\v=.slice none 0 0)∨∃g cap,v=.slice (some ⟨g,0,none⟩) n cap/\B<=g/\ZRow f w g n n:=by
 obtain⟨O,I,Z⟩:=h;rcases De I.1 with⟨rfl,rfl,_⟩ |⟨g,cap,rfl,hB,hg,hc⟩
 ·exact .inl ⟨rfl,rfl⟩
 ·right
  have hl:O.length=n*2:=I.1.1;have hs:=I.2 g rfl;refine⟨g,cap,rfl,hB,⟨hs,?_,?_,?_⟩⟩
  ·intro i hi
   rcases M0 I.1 with J |⟨g',cs,J,_,h4⟩
   ·simp[Value.ownBlock]at J
   ·simp[Value.ownBlock]at J
    subst J;exact h4.free_ i
  ·intro i hi
   rw[An I.1 (List.getElem?_eq_getElem (by omega:i<O.length))];rfl
  ·intro j hj
   obtain⟨s,p,n',c,U,V,Y⟩:=Z j hj;exact⟨s,p,n',c,An I.1 U,An I.1 V,Y⟩
theorem Wk:(prog.info? 84).map (λi=>(i.zero,i.size,i.bytes))=some (some (.agg #[.bool false,.slice none 0 0]),2,32):=by kernel_rfl
theorem mY:∀u∈(Value.agg #[.bool false,.slice none 0 0]).cells.toList,NotInt u:=by
 intro u I;simp[Value.cells]at I;rcases I with rfl|rfl <;> first|exact NotInt.bool _|exact NotInt.slice _ _ _
end
def lin (a b:Int) (p:Nat->Int):Nat->Int:=λj=>(if 0<j then a*p (j - 1)else 0)+b*p j
def mv (i:Nat) (a b c d:Int):Nat->Nat->Int
 | 0=>λj=>if j=0 then 1 else 0
 | k+1=>if k<i then lin a b (mv i a b c d k)else lin c d (mv i a b c d k)
theorem Ju (i:Nat) (a b c d:Int) (k j:Nat) (h:k<j):mv i a b c d k j=0:=by
 induction k generalizing j with
 | zero=>show(if j=0 then(1:Int)else 0)=0;rw[if_neg (by omega)]
 | succ k ih=>
  rw[mv];split <;>(unfold lin;rw[ih j (by omega),ih (j - 1) (by omega)];simp)
theorem Ff:nd 1=1:=by
 have I:=Bz.2 (show(1:Nat)≠0 by decide);have J:=(Bj (v:=1) (k:=1)).2 (by decide);omega
theorem P0 (a b:Int) (p:Nat->Int) (K:Nat) (J:nd a.natAbs<=2) (O:nd b.natAbs<=2) (I:∀j,nd (p j).natAbs<=K) (j:Nat):nd (lin a b p j).natAbs<=K+3:=by
 unfold lin;refine nS (Hf _ _ (K:=K+2) ?_ ?_) (by omega)
 ·split
  ·rw[Int.natAbs_mul];have:=Cm a.natAbs (p (j - 1)).natAbs;have:=I (j - 1);omega
  ·rw[show(0:Int).natAbs=0 from rfl,Cq];omega
 ·rw[Int.natAbs_mul];have:=Cm b.natAbs (p j).natAbs;have:=I j;omega
theorem Tf (i:Nat) (a b c d:Int) (I:nd a.natAbs<=2) (J:nd b.natAbs<=2) (O:nd c.natAbs<=2) (U:nd d.natAbs<=2) (k j:Nat):nd (mv i a b c d k j).natAbs<=1+3*k:=by
 induction k generalizing j with
 | zero=>
  show nd (if j=0 then(1:Int)else 0).natAbs<=1;split
  ·exact Nat.le_of_eq Ff
  ·rw[show(0:Int).natAbs=0 from rfl,Cq];omega
 | succ k ih=>
  rw[mv];split
  ·exact P0 a b _ _ I J ih j
  ·exact P0 c d _ _ O U ih j
def sumQ (f:Nat->Rat):Nat->Rat
 | 0=>0
 | n+1=>sumQ f n+f n
def subst (q:Nat->Rat) (w:Nat) (a b c d:Int) (n j:Nat):Rat:=sumQ (λi=>q i*(mv i a b c d w j:Int)) n
theorem Ed (z:Int):hq (z:Rat)=max (nd z.natAbs) 1:=by
 unfold hq;rw[Rat.num_intCast,Rat.den_intCast,Ff]
theorem D2 (f:Nat->Rat) (K:Nat) (n:Nat) (h:∀i,i<n->hq (f i)<=K):hq (sumQ f n)<=1+n*(K+1):=by
 induction n with
 | zero=>show hq (0:Rat)<=_;simp[hq,Cq,Ff]
 | succ n ih=>
  rw[sumQ,Nat.succ_mul];have I:=ih (λi U=>h i (by omega));have J:=N5 (sumQ f n) (f n);have O:=h n (by omega);omega
theorem Rz (q:Rat) (a b:Int) (p:Nat->Int) (j:Nat):q*(lin a b p j:Int)=(if 0<j then(a:Rat)*(q*(p (j - 1):Int))else 0)+(b:Rat)*(q*(p j:Int)):=by
 unfold lin;split <;> simp <;> grind
end Go.Proofs.YtenlbhlllgppmaaGreatDoor
