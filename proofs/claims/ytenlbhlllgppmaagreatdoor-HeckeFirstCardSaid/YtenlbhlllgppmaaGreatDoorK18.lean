/- Rows of integers and of fractions in memory: blocks that hold no digits, and append at them. -/
import Derived.Test.YtenlbhlllgppmaaGreatDoorK17
set_option maxRecDepth 100000
set_option maxHeartbeats 8000000
namespace Go.Proofs.YtenlbhlllgppmaaGreatDoor
open Go.RowKit
def Stk (K:Value→Prop) (w:World) (R:Nat):Prop:=R<w.heap.size∧∀ i v,w.cell? ⟨R,i,none⟩=some v→K v
theorem Stk.sts {w:World} {R:Nat} (h:Stk NotInt w R):Sts w R:=h
theorem Stk.next {K:Value→Prop} {w w':World} {R:Nat} (hb:Below w.heap.size w w') (h:Stk K w R):Stk K w' R:=
 ⟨Nat.lt_of_lt_of_le h.1 hb.size,fun i v hv=>h.2 i v ((hb.cell (p:=⟨R,i,none⟩) h.1).symm.trans hv)⟩
theorem Stk.of {K:Value→Prop} {w:World} {R:Nat} {t:TypeId} {cs:Array Value} (h:Blk w R t cs) (hc:∀ v∈cs.toList,K v):Stk K w R:=
 ⟨h.lt,fun i v hv=>by
  rw[h.cell_ i]at hv
  exact hc v (List.mem_of_getElem? (by simpa using hv))⟩
theorem Stk.cells {K:Value→Prop} {w:World} {R:Nat} {t:TypeId} {cs:Array Value} (h:Blk w R t cs) (hs:Stk K w R):∀ v∈cs.toList,K v:=by
 intro v hv
 obtain⟨i,hi⟩:=List.getElem?_of_mem hv
 exact hs.2 i v (by rw[h.cell_ i];simpa using hi)
theorem mem_zeroCells {z:Array Value} {n:Nat} {v:Value} (h:v∈(Builtin.zeroCells z n).toList):v∈z.toList:=by
 simp only[Builtin.zeroCells,Array.toList_map,List.mem_map,Array.toList_range,List.mem_range]at h
 obtain⟨i,hi,rfl⟩:=h
 have h0:0<z.size:=by
  rcases Nat.eq_zero_or_pos z.size with h1|h1
  ·rw[h1]at hi;omega
  ·exact h1
 have h2:=Nat.mod_lt i h0
 rw[getElem!_pos z (i % z.size) h2]
 exact Array.getElem_mem_toList h2
theorem append_stk {P:Program} (K:Value→Prop) (w:World) (B:Nat) (t ty e:TypeId) (i:TypeInfo) (z:Value) (size bytes:Nat) (ht:P.underlying t=some (.slice e)) (hi:P.info? e=some i) (hz:i.zero=some z)
  (hsize:i.size=size) (hby:i.bytes=bytes) (hzs:z.cells.size=size) (hsz:0<size)
  (v:Value) (n:Nat) (xs:List Value) (hown:w.ownsRow B e size v n xs)
  (a:Addr) (m c:Nat) (news:List Value) (hl:news.length=m*size) (hnews:∀ j u,news[j]?=some u→w.cell? (a.add j)=some u) (h1:∀ u∈news,u.oneCell'=true)
  (h63:n+m≤maxLen) (hbytes:(n+m)*bytes≤140737488355328) (hm:0<m)
  (hK:∀ g,v.ownBlock=some g→Stk K w g) (hKn:∀ u∈news,K u) (hKz:∀ u∈z.cells.toList,K u)
  {v':Value} {w':World} (hr:(Builtin.append_ #[t,t] ty #[v,.slice (some a) m c]).run P w=.ok v' w'):
  ∀ g,v'.ownBlock=some g→Stk K w' g:=by
 subst hsize
 subst hby
 have hsmall:n+m≤9223372036854775807:=by simp only[maxLen]at h63;omega
 rcases hown.2 with⟨rfl,rfl⟩ |⟨g,cap,cur,rfl,hbg,hg,hnc,hcm,hcs,htake⟩
 ·have hr2:=run_append_nil (P:=P) w t ty e i z ht hi hz a m c news hl hnews (by omega) (by omega) (by have hb:=hbytes;simp only[Nat.zero_add]at hb;omega)
  rw[hr2]at hr
  injection hr with hr3 hr4
  subst hr3;subst hr4
  intro g hg
  simp[Value.ownBlock]at hg
  subst hg
  refine Stk.of (Blk.new w.drew e _) ?_
  intro u hu
  rw[Array.toList_append,List.mem_append]at hu
  rcases hu with hu|hu
  ·exact hKn u (by simpa using hu)
  ·exact hKz u (mem_zeroCells hu)
 ·have hS:=hK g rfl
  have hKc:=Stk.cells (t:=e) hg hS
  have hKx:∀ u∈xs,K u:=fun u hu=>hKc u (List.mem_of_mem_take (by rw[htake];exact hu))
  by_cases hroom:n+m≤cap
  ·have hfit:n*i.size+news.length≤cur.size:=by rw[hl,hcs,← Nat.add_mul];exact Nat.mul_le_mul_right _ hroom
   have hr2:=run_append_room (P:=P) w t ty e i ht hi g n cap cur hg a m c news hl hnews h1 hroom hfit
   rw[hr2]at hr
   injection hr with hr3 hr4
   subst hr3;subst hr4
   intro g' hg'
   simp[Value.ownBlock]at hg'
   subst hg'
   refine Stk.of (t:=e) (setRow_heap w g cur _ e _ hg) ?_
   intro u hu
   simp only[List.mem_append]at hu
   rcases hu with(hu|hu)|hu
   ·exact hKc u (List.mem_of_mem_take hu)
   ·exact hKn u hu
   ·exact hKc u (List.mem_of_mem_drop hu)
  ·have holds:∀ j u,xs[j]?=some u→w.cell? ((⟨g,0,none⟩:Addr).add j)=some u:=hown.cells (g:=g) rfl
   have hr2:=run_append_grow (P:=P) w t ty e i z ht hi hz ⟨g,0,none⟩ n cap xs hown.1 holds a m c news hl hnews (by omega) (by omega) (growslice_fits (by omega) hbytes)
   rw[hr2]at hr
   injection hr with hr3 hr4
   subst hr3;subst hr4
   intro g' hg'
   simp[Value.ownBlock]at hg'
   subst hg'
   refine Stk.of (Blk.new w.drew e _) ?_
   intro u hu
   rw[Array.toList_append,List.mem_append,Array.toList_append,List.mem_append]at hu
   rcases hu with(hu|hu)|hu
   ·exact hKx u (by simpa using hu)
   ·exact hKn u (by simpa using hu)
   ·exact hKz u (mem_zeroCells hu)
def OwnK (K:Value→Prop) (w:World) (B E sz:Nat) (v:Value) (n:Nat) (xs:List Value):Prop:=w.ownsRow B E sz v n xs∧∀ g,v.ownBlock=some g→Stk K w g
theorem OwnK.nil (K:Value→Prop) (w:World) (B E sz:Nat):OwnK K w B E sz (.slice none 0 0) 0 []:=⟨World.ownsRow_nil w B E sz,fun g hg=>by simp[Value.ownBlock]at hg⟩
theorem OwnK.keep {K:Value→Prop} {w w':World} {B E sz n:Nat} {v:Value} {xs:List Value} (h:OwnK K w B E sz v n xs) (hb:Below w.heap.size w w'):OwnK K w' B E sz v n xs:=
 ⟨own_keep h.1 hb,fun g hg=>(h.2 g hg).next hb⟩
theorem wpl_app2 {P:Program} {W:World} {ops:Array Oper} {rest:List Oper} {o:Oper} {a:Act} {Q:Exit→Act→World→Prop} (K:Value→Prop) (hgd:o.guard=none) (s x:Operand) (t E:TypeId)
  (ho:o.op=.call { callee:=.builtin .append,args:=#[s,x],argTypes:=#[t,t] }) {z:Value} {sz bytes:Nat} (hU:P.underlying t=some (.slice E))
  (hinfo:(P.info? E).map (fun i=>(i.zero,i.size,i.bytes))=some (some z,sz,bytes)) (hzs:z.cells.size=sz) (hsz:0<sz) (B n:Nat) (v:Value) (xs news:List Value)
  (hs:a.eval s=v) (hown:OwnK K W B E sz v n xs) (hx:a.eval x=.slice (some ⟨W.heap.size,0,none⟩) 1 1) (hn:news.length=sz) (h1:∀ u∈news,u.oneCell'=true)
  (hb:(n+1)*bytes≤140737488355328) (hm:n+1≤9223372036854775807) (hB:B≤W.heap.size) (hKn:∀ u∈news,K u) (hKz:∀ u∈z.cells.toList,K u)
  (h:∀ v' w',OwnK K w' B E sz v' (n+1) (xs++news)→W.grownBy w' v.ownBlock→(v'.ownBlock=v.ownBlock∨v'.ownBlock=some (W.heap.size+1))→wpList P ops Q rest (a.put o.dst v') w'):
  wpList P ops Q (o :: rest) a (W.alloc (.cells news.toArray E)):=by
 obtain⟨i0,hi,hz0,hz1,hz2⟩:=info_parts hinfo
 have hcell:∀ (j:Nat) (u:Value),news[j]?=some u→(W.alloc (.cells news.toArray E)).cell? ((⟨W.heap.size,0,none⟩:Addr).add j)=some u:=by
  intro j u hu
  have hc:=(Blk.new W E news.toArray).cell_ j
  have e:(⟨W.heap.size,0,none⟩:Addr).add j=⟨W.heap.size,j,none⟩:=by
   unfold Addr.add;split
   ·rename_i h0;rw[h0]
   ·simp
  rw[e,hc]
  simpa using hu
 have hown2:OwnK K (W.alloc (.cells news.toArray E)) B E sz v n xs:=hown.keep ((Below.refl _ _).alloc (Nat.le_refl _) _)
 obtain⟨v',w',hr,g1,g2,_,g3⟩:=run_append_own_at (P:=P) (W.alloc (.cells news.toArray E)) B t o.type E i0 z sz bytes hU hi hz0 hz1 hz2 hzs hsz v n xs hown2.1 ⟨W.heap.size,0,none⟩ 1 1 news (by omega) hcell h1 hm hb (by simp;omega)
 have g4:=append_stk K (W.alloc (.cells news.toArray E)) B t o.type E i0 z sz bytes hU hi hz0 hz1 hz2 hzs hsz v n xs hown2.1 ⟨W.heap.size,0,none⟩ 1 1 news (by omega) hcell h1 hm hb (by omega) hown2.2 hKn hKz hr
 refine wpList_plain hgd fun K' hK'=>?_
 unfold Oper.wp execOp
 simp only[ho,resolve,invoke,builtin,Sem.run_bind,Sem.run_pure,Result.andThen_ok,List.map_toArray,List.map_cons,List.map_nil,hs,hx,hr]
 refine hK' _ _ (h v' w' ⟨g1,g4⟩ (grown_of_alloc g2) ?_)
 rcases g3 with g3|g3
 ·exact .inl g3
 ·exact .inr (by rw[g3];simp)
/-! What keeps the digits -/
structure I32 (w w':World):Prop where
 size:w.heap.size≤w'.heap.size
 cell:∀ (g i n:Nat),w.cell? ⟨g,i,none⟩=some (.int .u32 n)→w'.cell? ⟨g,i,none⟩=some (.int .u32 n)
theorem I32.refl (w:World):I32 w w:=⟨Nat.le_refl _,fun _ _ _ h=>h⟩
theorem I32.trans {a b c:World} (h:I32 a b) (k:I32 b c):I32 a c:=⟨Nat.le_trans h.size k.size,fun g i n e=>k.cell g i n (h.cell g i n e)⟩
theorem I32.below {w w':World} (hb:Below w.heap.size w w'):I32 w w':=
 ⟨hb.size,fun g i _ e=>(hb.cell (p:=⟨g,i,none⟩) (World.block_lt_of_cell? w ⟨g,i,none⟩ e)).trans e⟩
theorem I32.put {w:World} {R:Nat} (hs:Sts w R) (i:Nat) (u:Value):I32 w (w.setCell ⟨R,i,none⟩ u):=
 ⟨by simp,fun g j n e=>by
  have hne:R≠g:=fun e2=>hs.2 j _ (by rw[e2];exact e) _ _ rfl
  rw[World.cell?_setCell_far w ⟨R,i,none⟩ ⟨g,j,none⟩ u hne]
  exact e⟩
theorem I32.put4 {w:World} {R:Nat} (hs:Sts w R) (i j k l:Nat) (v0 v1 v2 v3:Value) (h0:NotInt v0) (h1:NotInt v1) (h2:NotInt v2):
  I32 w ((((w.setCell ⟨R,i,none⟩ v0).setCell ⟨R,j,none⟩ v1).setCell ⟨R,k,none⟩ v2).setCell ⟨R,l,none⟩ v3):=
 (((I32.put hs i v0).trans (I32.put (hs.put _ _ h0) j v1)).trans (I32.put ((hs.put _ _ h0).put _ _ h1) k v2)).trans (I32.put (((hs.put _ _ h0).put _ _ h1).put _ _ h2) l v3)
theorem I32.put2 {w:World} {R:Nat} (hs:Sts w R) (i j:Nat) (v0 v1:Value) (h0:NotInt v0):I32 w ((w.setCell ⟨R,i,none⟩ v0).setCell ⟨R,j,none⟩ v1):=
 (I32.put hs i v0).trans (I32.put (hs.put _ _ h0) j v1)
theorem I32.grown {K:Value→Prop} (hK32:∀ n,¬ K (.int .u32 n)) {w w':World} {v:Value} (hK:∀ g,v.ownBlock=some g→Stk K w g) (hg:w.grownBy w' v.ownBlock):I32 w w':=
 ⟨hg.size,fun g i n e=>hg.cell e (fun e2=>hK32 n ((hK g e2.symm).2 i _ e))⟩
theorem not_int32 (n:Int):¬ NotInt (.int .u32 n):=fun h=>h _ _ rfl
theorem Dg.i32 {w w':World} (h:I32 w w') {p:Option Addr} {c n:Nat} {a:Nat→Nat} (hd:Dg w p c n a):Dg w' p c n a:=
 ⟨hd.cap,hd.lt,by
  rcases hd.at' with h1 |⟨g,o,e,hg,hc⟩
  ·exact .inl h1
  ·exact .inr ⟨g,o,e,Nat.lt_of_lt_of_le hg h.size,fun j hj=>h.cell _ _ _ (hc j hj)⟩⟩
theorem Zs.i32 {w w':World} (h:I32 w w') {s:Bool} {p:Option Addr} {n c:Nat} {z:Int} (hz:Zs w s p n c z):Zs w' s p n c z:=⟨hz.1,hz.2.1,Dg.i32 h hz.2.2⟩
theorem Zr.i32 {w w':World} (h:I32 w w') {s:Bool} {p:Option Addr} {n c:Nat} {z:Int} (hz:Zr w s p n c z):Zr w' s p n c z:=by
 obtain⟨a,h1,h2⟩:=hz
 exact⟨a,Dg.i32 h h1,h2⟩
theorem Qs.i32 {w w':World} (h:I32 w w') {s:Bool} {p:Option Addr} {n c:Nat} {t:Bool} {q:Option Addr} {m d:Nat} {r:Rat} (hz:Qs w s p n c t q m d r):Qs w' s p n c t q m d r:=⟨hz.1.i32 h,hz.2.i32 h⟩
/-! Elements of rows of fractions -/
abbrev FP:=World→Bool→Option Addr→Nat→Nat→Bool→Option Addr→Nat→Nat→Prop
def Solid (P:FP):Prop:=∀ w w' s p n c t q m d,I32 w w'→P w s p n c t q m d→P w' s p n c t q m d
def IsQ (r:Rat):FP:=fun w s p n c t q m d=>Qs w s p n c t q m d r
theorem IsQ.solid (r:Rat):Solid (IsQ r):=fun _ _ _ _ _ _ _ _ _ _ h hq=>hq.i32 h
def IsR (x y:Int):FP:=fun w s p n c t q m d=>Zr w s p n c x∧Zr w t q m d y∧n≤4∧m≤4
theorem IsR.solid (x y:Int):Solid (IsR x y):=fun _ _ _ _ _ _ _ _ _ _ h hq=>⟨hq.1.i32 h,hq.2.1.i32 h,hq.2.2⟩
def QE (P:FP) (w:World) (g i:Nat):Prop:=∃ s p n c t q m d,w.cell? ⟨g,i,none⟩=some (.bool s)∧w.cell? ⟨g,i+1,none⟩=some (.slice p n c)∧w.cell? ⟨g,i+2,none⟩=some (.bool t)∧w.cell? ⟨g,i+3,none⟩=some (.slice q m d)∧P w s p n c t q m d
theorem QE.keep {P:FP} (hP:Solid P) {w w':World} {g i:Nat} (h:QE P w g i) (hb:Below w.heap.size w w'):QE P w' g i:=by
 obtain⟨s,p,n,c,t,q,m,d,h0,h1,h2,h3,h4⟩:=h
 have hk:∀ j v,w.cell? ⟨g,j,none⟩=some v→w'.cell? ⟨g,j,none⟩=some v:=fun j v e=>(hb.cell (p:=⟨g,j,none⟩) (World.block_lt_of_cell? w ⟨g,j,none⟩ e)).trans e
 exact⟨s,p,n,c,t,q,m,d,hk _ _ h0,hk _ _ h1,hk _ _ h2,hk _ _ h3,hP _ _ _ _ _ _ _ _ _ _ (I32.below hb) h4⟩
def QL (F:Nat→FP) (w:World) (v:Value) (n:Nat):Prop:=(n=0∧∃ a c,v=.slice a 0 c)∨∃ g o cap,v=.slice (some ⟨g,o,none⟩) n cap∧g<w.heap.size∧∀ j,j<n→QE (F j) w g (o+j*4)
theorem QL.keep {F:Nat→FP} (hF:∀ j,Solid (F j)) {w w':World} {v:Value} {n:Nat} (h:QL F w v n) (hb:Below w.heap.size w w'):QL F w' v n:=by
 rcases h with h |⟨g,o,cap,e,hg,hc⟩
 ·exact .inl h
 ·exact .inr ⟨g,o,cap,e,Nat.lt_of_lt_of_le hg hb.size,fun j hj=>(hc j hj).keep (hF j) hb⟩
structure QRow (F:Nat→FP) (w:World) (g N k:Nat):Prop where
 sts:Sts w g
 free:∀ i,i<N*4→w.frozen? ⟨g,i,none⟩=false
 has:∀ i,i<N*4→(w.cell? ⟨g,i,none⟩).isSome=true
 val:∀ j,j<k→QE (F j) w g (j*4)
theorem QRow.keep {F:Nat→FP} (hF:∀ j,Solid (F j)) {w w':World} {g N k:Nat} (h:QRow F w g N k) (hb:Below w.heap.size w w'):QRow F w' g N k:=
 ⟨h.sts.next hb,fun i hi=>frozen_keep hb (h.has i hi) (h.free i hi),fun i hi=>by rw[hb.cell (p:=⟨g,i,none⟩) h.sts.1];exact h.has i hi,fun j hj=>(h.val j hj).keep (hF j) hb⟩
theorem QRow.ql {F:Nat→FP} {w:World} {g N:Nat} (h:QRow F w g N N) (c:Nat):QL F w (.slice (some ⟨g,0,none⟩) N c) N:=
 .inr ⟨g,0,c,rfl,h.sts.1,fun j hj=>by rw[Nat.zero_add];exact h.val j hj⟩
theorem QRow.congr {F G:Nat→FP} {w:World} {g N k:Nat} (h:QRow F w g N k) (e:∀ j,j<k→F j=G j):QRow G w g N k:=⟨h.sts,h.free,h.has,fun j hj=>by rw[← e j hj];exact h.val j hj⟩
theorem some_put {w:World} {a:Addr} {R i:Nat} {u:Value} (h:(w.cell? a).isSome=true):((w.setCell ⟨R,i,none⟩ u).cell? a).isSome=true:=cell_some_set h
theorem QRow.set {F:Nat→FP} (hF:∀ j,Solid (F j)) {w:World} {g N k k':Nat} (h:QRow F w g N k) (j:Nat) (hj:j<N) (G:Nat→FP) (hG:Solid (G j)) (hk:∀ i,i<k'→i≠j→i<k∧F i=G i)
  {s t:Bool} {p q:Option Addr} {n c m d:Nat} (hq:G j w s p n c t q m d):
  QRow G ((((w.setCell ⟨g,j*4,none⟩ (.bool s)).setCell ⟨g,j*4+1,none⟩ (.slice p n c)).setCell ⟨g,j*4+2,none⟩ (.bool t)).setCell ⟨g,j*4+3,none⟩ (.slice q m d)) g N k':=by
 have h32:=I32.put4 h.sts (j*4) (j*4+1) (j*4+2) (j*4+3) (.bool s) (.slice p n c) (.bool t) (.slice q m d) (NotInt.bool _) (NotInt.slice _ _ _) (NotInt.bool _)
 have s1:=h.sts.put ⟨g,j*4,none⟩ (.bool s) (NotInt.bool _)
 have s2:=s1.put ⟨g,j*4+1,none⟩ (.slice p n c) (NotInt.slice _ _ _)
 have s3:=s2.put ⟨g,j*4+2,none⟩ (.bool t) (NotInt.bool _)
 have s4:=s3.put ⟨g,j*4+3,none⟩ (.slice q m d) (NotInt.slice _ _ _)
 refine⟨s4,fun i hi=>frozen_set (frozen_set (frozen_set (frozen_set (h.free i hi)))),fun i hi=>some_put (some_put (some_put (some_put (h.has i hi)))),fun i hi=>?_⟩
 by_cases hij:i=j
 ·subst hij
  have c0:=h.has (i*4) (by omega)
  have c1:=some_put (R:=g) (i:=i*4) (u:=.bool s) (h.has (i*4+1) (by omega))
  have c2:=some_put (R:=g) (i:=i*4+1) (u:=.slice p n c) (some_put (R:=g) (i:=i*4) (u:=.bool s) (h.has (i*4+2) (by omega)))
  have c3:=some_put (R:=g) (i:=i*4+2) (u:=.bool t) (some_put (R:=g) (i:=i*4+1) (u:=.slice p n c) (some_put (R:=g) (i:=i*4) (u:=.bool s) (h.has (i*4+3) (by omega))))
  refine⟨s,p,n,c,t,q,m,d,?_,?_,?_,?_,hG _ _ _ _ _ _ _ _ _ _ h32 hq⟩
  ·rw[World.cell?_setCell_other _ _ _ _ (by simp),World.cell?_setCell_other _ _ _ _ (by simp),World.cell?_setCell_other _ _ _ _ (by simp),World.cell?_setCell_same' _ _ _ c0]
  ·rw[World.cell?_setCell_other _ _ _ _ (by simp),World.cell?_setCell_other _ _ _ _ (by simp),World.cell?_setCell_same' _ _ _ c1]
  ·rw[World.cell?_setCell_other _ _ _ _ (by simp),World.cell?_setCell_same' _ _ _ c2]
  ·rw[World.cell?_setCell_same' _ _ _ c3]
 ·obtain⟨hik,e⟩:=hk i hi hij
  obtain⟨s',p',n',c',t',q',m',d',e0,e1,e2,e3,e4⟩:=h.val i hik
  rw[← e]
  have far:∀ (x:Nat) (v:Value),i*4≤x→x<i*4+4→w.cell? ⟨g,x,none⟩=some v→((((w.setCell ⟨g,j*4,none⟩ (.bool s)).setCell ⟨g,j*4+1,none⟩ (.slice p n c)).setCell ⟨g,j*4+2,none⟩ (.bool t)).setCell ⟨g,j*4+3,none⟩ (.slice q m d)).cell? ⟨g,x,none⟩=some v:=by
   intro x v hx1 hx2 hv
   rw[World.cell?_setCell_other _ _ _ _ (by simp <;> omega),World.cell?_setCell_other _ _ _ _ (by simp <;> omega),World.cell?_setCell_other _ _ _ _ (by simp <;> omega),World.cell?_setCell_other _ _ _ _ (by simp <;> omega)]
   exact hv
  exact⟨s',p',n',c',t',q',m',d',far _ _ (by omega) (by omega) e0,far _ _ (by omega) (by omega) e1,far _ _ (by omega) (by omega) e2,far _ _ (by omega) (by omega) e3,hF i _ _ _ _ _ _ _ _ _ _ h32 e4⟩
def QX (P:FP) (w:World) (xs:List Value) (i:Nat):Prop:=∃ s p n c t q m d,xs[i]?=some (.bool s)∧xs[i+1]?=some (.slice p n c)∧xs[i+2]?=some (.bool t)∧xs[i+3]?=some (.slice q m d)∧P w s p n c t q m d
def OwnQ (F:Nat→FP) (w:World) (B:Nat) (v:Value) (n:Nat):Prop:=∃ xs,OwnK NotInt w B 86 4 v n xs∧∀ j,j<n→QX (F j) w xs (j*4)
theorem OwnQ.nil (F:Nat→FP) (w:World) (B:Nat):OwnQ F w B (.slice none 0 0) 0:=⟨[],OwnK.nil _ _ _ _ _,fun _ hj=>absurd hj (Nat.not_lt_zero _)⟩
theorem QX.i32 {P:FP} (hP:Solid P) {w w':World} (h:I32 w w') {xs:List Value} {i:Nat} (hx:QX P w xs i):QX P w' xs i:=by
 obtain⟨s,p,n,c,t,q,m,d,h0,h1,h2,h3,h4⟩:=hx
 exact⟨s,p,n,c,t,q,m,d,h0,h1,h2,h3,hP _ _ _ _ _ _ _ _ _ _ h h4⟩
theorem OwnQ.keep {F:Nat→FP} (hF:∀ j,Solid (F j)) {w w':World} {B n:Nat} {v:Value} (h:OwnQ F w B v n) (hb:Below w.heap.size w w'):OwnQ F w' B v n:=by
 obtain⟨xs,h1,h2⟩:=h
 exact⟨xs,h1.keep hb,fun j hj=>(h2 j hj).i32 (hF j) (I32.below hb)⟩
theorem QX.app {P:FP} {w:World} {xs ys:List Value} {i:Nat} (h:QX P w xs i):QX P w (xs++ys) i:=by
 obtain⟨s,p,n,c,t,q,m,d,h0,h1,h2,h3,h4⟩:=h
 have hk:∀ (j:Nat) (v:Value),xs[j]?=some v→(xs++ys)[j]?=some v:=by
  intro j v e
  rw[List.getElem?_append_left]
  ·exact e
  ·rcases Nat.lt_or_ge j xs.length with hlt|hge
   ·exact hlt
   ·rw[List.getElem?_eq_none hge]at e;cases e
 exact⟨s,p,n,c,t,q,m,d,hk _ _ h0,hk _ _ h1,hk _ _ h2,hk _ _ h3,h4⟩
theorem OwnQ.push {F:Nat→FP} (hF:∀ j,Solid (F j)) {W w':World} {B n:Nat} {v v':Value} {xs:List Value} (h1:OwnK NotInt W B 86 4 v n xs) (h2:∀ j,j<n→QX (F j) W xs (j*4))
  {s t:Bool} {p q:Option Addr} {k c m d:Nat} (hq:F n W s p k c t q m d) (h3:OwnK NotInt w' B 86 4 v' (n+1) (xs++[.bool s,.slice p k c,.bool t,.slice q m d])) (hg:W.grownBy w' v.ownBlock):OwnQ F w' B v' (n+1):=by
 have h32:=I32.grown (K:=NotInt) (fun x=>not_int32 x) h1.2 hg
 refine⟨_,h3,fun j hj=>?_⟩
 by_cases hjn:j<n
 ·exact((h2 j hjn).i32 (hF j) h32).app
 ·obtain rfl:j=n:=by omega
  have hl:xs.length=j*4:=h1.1.1
  refine⟨s,p,k,c,t,q,m,d,?_,?_,?_,?_,hF j _ _ _ _ _ _ _ _ _ _ h32 hq⟩
  ·rw[List.getElem?_append_right (by omega),hl,show j*4 - j*4=0 by omega];rfl
  ·rw[List.getElem?_append_right (by omega),hl,show j*4+1 - j*4=1 by omega];rfl
  ·rw[List.getElem?_append_right (by omega),hl,show j*4+2 - j*4=2 by omega];rfl
  ·rw[List.getElem?_append_right (by omega),hl,show j*4+3 - j*4=3 by omega];rfl
theorem OwnQ.row {F:Nat→FP} {w:World} {B n:Nat} {v:Value} (h:OwnQ F w B v n):(n=0∧v=.slice none 0 0)∨∃ g cap,v=.slice (some ⟨g,0,none⟩) n cap∧B≤g∧QRow F w g n n:=by
 obtain⟨xs,h1,h2⟩:=h
 rcases own_shape h1.1 with⟨rfl,rfl,_⟩ |⟨g,cap,rfl,hB,hg,hc⟩
 ·exact .inl ⟨rfl,rfl⟩
 ·right
  have hl:xs.length=n*4:=h1.1.1
  have hs:=h1.2 g rfl
  refine⟨g,cap,rfl,hB,⟨hs,?_,?_,?_⟩⟩
  ·intro i hi
   rcases own_block h1.1 with h3 |⟨g',cs,h3,_,h4⟩
   ·simp[Value.ownBlock]at h3
   ·simp[Value.ownBlock]at h3
    subst h3
    exact h4.free_ i
  ·intro i hi
   rw[own_read h1.1 (List.getElem?_eq_getElem (by omega:i<xs.length))];rfl
  ·intro j hj
   obtain⟨s,p,n',c,t,q,m,d,e0,e1,e2,e3,e4⟩:=h2 j hj
   exact⟨s,p,n',c,t,q,m,d,own_read h1.1 e0,own_read h1.1 e1,own_read h1.1 e2,own_read h1.1 e3,e4⟩
theorem OwnQ.ql {F:Nat→FP} {w:World} {B n:Nat} {v:Value} (h:OwnQ F w B v n):QL F w v n:=by
 rcases h.row with⟨rfl,rfl⟩ |⟨g,cap,rfl,_,hr⟩
 ·exact .inl ⟨rfl,_,_,rfl⟩
 ·exact hr.ql cap
def ZAt (neg:Bool) (v:Nat) (S:Nat) (w:World) (u:Value) (wr:World):Prop:=
 Blk wr S 84 #[.bool false,.slice none 0 0]∧Below S w wr∧S<wr.heap.size ∧
 ((u=.int .u64 (v:Nat)∧Blk wr (S+1) 84 #[.bool neg,.slice none 0 0]) ∨
  (u=.int .u64 0∧v≠0∧∃ p c,Blk wr (S+1) 84 #[.bool neg,.slice p 1 c]∧Dg wr p c 1 (fun _=>v)))
theorem c_Z (n:Int) (w:World) (h1:-2147483648≤n) (h2:n≤2147483648):
  Calls Tryz.prog 110 #[.int .i64 n] w fun e w'=>RetZ w' e n∧Below w.heap.size w w':=by
 obtain⟨v,hv⟩:∃ v:Nat,n.natAbs=v:=⟨_,rfl⟩
 have hvl:v<4294967296:=by omega
 have hvm:(v:Int) % 4294967296=(v:Nat):=by omega
 have hvd:(v:Int) / 4294967296=0:=by omega
 have HV:=Kh (show sg (decide (n<0)) v=n by rw[← hv];exact sg_self n)
 have HVN:=Kh (show v=0→n=0 by omega)
 have HVL:=Kh hvl
 clear hvl
 by_cases hneg:n<0
 ·have e1:IntKind.u64.wrap n=n+18446744073709551616:=by rw[IntKind.wrap_u64];omega
  have e2:IntKind.u64.wrap (-(n+18446744073709551616))=(v:Nat):=by rw[IntKind.wrap_u64];omega
  have e3:IntKind.u64.wrap (-n)=(v:Nat):=by rw[IntKind.wrap_u64];omega
  have hd:decide (n<0)=true:=decide_eq_true hneg
  rw[hd]at HV
  have hvne:v≠0:=by omega
  clear h1 h2 hv
  go_enter Tryz.func110,Tryz.ntmps110
  go_wp2
  obtain⟨w0,hw0,X0,X1,hb0⟩:=bx2 w #[.bool false,.slice none 0 0] 84 #[.bool true,.slice none 0 0] 84
  rw[hw0]
  have HZA:=Kh (show ZAt true v w.heap.size w (.int .u64 (v:Nat)) w0 from⟨X0,hb0,X0.lt,.inl ⟨rfl,X1⟩⟩)
  clear hw0 X0 X1 hb0
  go_loopw [3] (fun u wr=>ZAt true v w.heap.size w u wr) (fun u _=>(intOf u).toNat)
  case atStart=>exact HZA.out
  case round=>
   obtain⟨X0,hb0,hlt,⟨rfl,X1⟩ |⟨rfl,hv0,p,c,X1,hd⟩⟩:=hrel
   ·clear HZA
    by_cases hv0:v=0
    ·exact absurd hv0 hvne
    ·have a0:=X1.at_ 0 rfl
     have a1:=X1.at_ 1 rfl
     have HX0:=Kh X0
     have HX1:=Kh X1
     have HB:=Kh hb0
     have hvp:(v:Int) > 0:=by omega
     clear X0 X1 hb0
     go_wp2_with (at_builtin;refine wpl_app1 rfl (.tmp 17) (.tmp 20) _ 200 rfl u32U u32Row rfl (by decide) wr.heap.size 0 (.slice none 0 0) [] [.int .u32 (v:Nat)] rfl (World.ownsRow_nil _ _ _ _) rfl rfl (one32 v) (by omega) (by omega) (Nat.le_refl _) ?_;intro v' w' hown' hgr hat;obtain⟨p9,c9,rfl,hd9⟩:=Dg.of_own (n:=1) (a:=fun _=>v) hown' (fun _ _=>HVL.out);have HX0:=Kh (HX0.out.grown_ hgr (by simp[Value.ownBlock]));have HX1:=Kh (HX1.out.grown_ hgr (by simp[Value.ownBlock]));have HB:=Kh (HB.out.grown hgr HB.out.size (by intro k hk;simp[Value.ownBlock]at hk));have b0:w'.cell? ⟨w.heap.size+1,0,none⟩=some (.bool true):=HX1.out.at_ 0 rfl;have b1:w'.cell? ⟨w.heap.size+1,1,none⟩=some (.slice none 0 0):=HX1.out.at_ 1 rfl;have f1:w'.frozen? ⟨w.heap.size+1,1,none⟩=false:=HX1.out.free_ 1;have HD9:=Kh hd9;clear hown' hgr hat hd9)
     go_roundw
     case rel=>
      refine⟨HX0.out.far_ (by simp) _,HB.out.setCell (by simp) _,Nat.lt_of_lt_of_le HX0.out.lt (by simp),.inr ⟨rfl,hv0,p9,c9,HX1.out.set_ 1 _,?_⟩⟩
      exact HD9.out.put (Sts.box HX1.out) 1 _
     case measure=>simp[intOf];omega
   ·have a0:=X1.at_ 0 rfl
    have a1:=X1.at_ 1 rfl
    have z0:=X0.at_ 0 rfl
    have z1:=X0.at_ 1 rfl
    have f0:=X0.free_ 0
    have f1:=X0.free_ 1
    have HB:=Kh hb0
    have hzn:Zs wr true p 1 c n:=by
     have h1:=Dg.norm hd (.inr hv0)
     rw[show vf (fun _=>v) 1=v from by simp[vf]]at h1
     have h2:=zs_of (s:=true) (t:=true) h1.2 h1.1 (by simp)
     rwa [HV.out]at h2
    have HZ:=Kh (hzn.put2 (Sts.box X0) 0 1 (.bool true) (.slice p 1 c) (NotInt.bool _))
    clear X0 X1 hb0 hlt hvm hvd HV HVN hd hzn HZA
    go_wp2
    refine bodyPost_ret (by simp[results,Tryz.results110,go_sem,z0,z1];try rfl) rfl ?_
    exact⟨⟨_,p,1,c,rfl,HZ.out⟩,(HB.out.setCell (Nat.le_refl _) _).setCell (Nat.le_refl _) _⟩
 ·have e1:IntKind.u64.wrap n=(v:Nat):=by rw[IntKind.wrap_u64];omega
  have hd:decide (n<0)=false:=decide_eq_false hneg
  rw[hd]at HV
  clear h1 h2 hv
  go_enter Tryz.func110,Tryz.ntmps110
  go_wp2
  obtain⟨w0,hw0,X0,X1,hb0⟩:=bx2 w #[.bool false,.slice none 0 0] 84 #[.bool false,.slice none 0 0] 84
  rw[hw0]
  have HZA:=Kh (show ZAt false v w.heap.size w (.int .u64 (v:Nat)) w0 from⟨X0,hb0,X0.lt,.inl ⟨rfl,X1⟩⟩)
  clear hw0 X0 X1 hb0
  go_loopw [3] (fun u wr=>ZAt false v w.heap.size w u wr) (fun u _=>(intOf u).toNat)
  case atStart=>exact HZA.out
  case round=>
   obtain⟨X0,hb0,hlt,⟨rfl,X1⟩ |⟨rfl,hv0,p,c,X1,hd⟩⟩:=hrel
   ·clear HZA
    by_cases hv0:v=0
    ·subst hv0
     obtain rfl:n=0:=HVN.out rfl
     have a0:=X1.at_ 0 rfl
     have a1:=X1.at_ 1 rfl
     have z0:=X0.at_ 0 rfl
     have z1:=X0.at_ 1 rfl
     have f0:=X0.free_ 0
     have f1:=X0.free_ 1
     have HB:=Kh hb0
     clear X0 X1 hb0 hlt hvm hvd HV HVN
     go_wp2
     refine bodyPost_ret (by simp[results,Tryz.results110,go_sem,z0,z1];try rfl) rfl ?_
     exact⟨⟨_,none,0,0,rfl,rfl,rfl,Nm.nil _⟩,(HB.out.setCell (Nat.le_refl _) _).setCell (Nat.le_refl _) _⟩
    ·have a0:=X1.at_ 0 rfl
     have a1:=X1.at_ 1 rfl
     have HX0:=Kh X0
     have HX1:=Kh X1
     have HB:=Kh hb0
     have hvp:(v:Int) > 0:=by omega
     clear X0 X1 hb0
     go_wp2_with (at_builtin;refine wpl_app1 rfl (.tmp 17) (.tmp 20) _ 200 rfl u32U u32Row rfl (by decide) wr.heap.size 0 (.slice none 0 0) [] [.int .u32 (v:Nat)] rfl (World.ownsRow_nil _ _ _ _) rfl rfl (one32 v) (by omega) (by omega) (Nat.le_refl _) ?_;intro v' w' hown' hgr hat;obtain⟨p9,c9,rfl,hd9⟩:=Dg.of_own (n:=1) (a:=fun _=>v) hown' (fun _ _=>HVL.out);have HX0:=Kh (HX0.out.grown_ hgr (by simp[Value.ownBlock]));have HX1:=Kh (HX1.out.grown_ hgr (by simp[Value.ownBlock]));have HB:=Kh (HB.out.grown hgr HB.out.size (by intro k hk;simp[Value.ownBlock]at hk));have b0:w'.cell? ⟨w.heap.size+1,0,none⟩=some (.bool false):=HX1.out.at_ 0 rfl;have b1:w'.cell? ⟨w.heap.size+1,1,none⟩=some (.slice none 0 0):=HX1.out.at_ 1 rfl;have f1:w'.frozen? ⟨w.heap.size+1,1,none⟩=false:=HX1.out.free_ 1;have HD9:=Kh hd9;clear hown' hgr hat hd9)
     go_roundw
     case rel=>
      refine⟨HX0.out.far_ (by simp) _,HB.out.setCell (by simp) _,Nat.lt_of_lt_of_le HX0.out.lt (by simp),.inr ⟨rfl,hv0,p9,c9,HX1.out.set_ 1 _,?_⟩⟩
      exact HD9.out.put (Sts.box HX1.out) 1 _
     case measure=>simp[intOf];omega
   ·have a0:=X1.at_ 0 rfl
    have a1:=X1.at_ 1 rfl
    have z0:=X0.at_ 0 rfl
    have z1:=X0.at_ 1 rfl
    have f0:=X0.free_ 0
    have f1:=X0.free_ 1
    have HB:=Kh hb0
    have hzn:Zs wr false p 1 c n:=by
     have h1:=Dg.norm hd (.inr hv0)
     rw[show vf (fun _=>v) 1=v from by simp[vf]]at h1
     have h2:=zs_of (s:=false) (t:=false) h1.2 h1.1 (by simp)
     rwa [HV.out]at h2
    have HZ:=Kh (hzn.put2 (Sts.box X0) 0 1 (.bool false) (.slice p 1 c) (NotInt.bool _))
    clear X0 X1 hb0 hlt hvm hvd HV HVN hd hzn HZA
    go_wp2
    refine bodyPost_ret (by simp[results,Tryz.results110,go_sem,z0,z1];try rfl) rfl ?_
    exact⟨⟨_,p,1,c,rfl,HZ.out⟩,(HB.out.setCell (Nat.le_refl _) _).setCell (Nat.le_refl _) _⟩
theorem c_Q (n:Int) (w:World) (h1:-2147483648≤n) (h2:n≤2147483648):
  Calls Tryz.prog 78 #[.int .i64 n] w fun e w'=>RetQ w' e (n:Rat)∧Below w.heap.size w w':=by
 have HZ1:=Kh (fun w1=>c_Z n w1 h1 h2)
 have HZ2:=Kh (fun w1=>c_Z 1 w1 (by omega) (by omega))
 clear h1 h2
 go_enter Tryz.func78,Tryz.ntmps78
 go_wp2_with fail
 obtain⟨w0,hw0,X0,hb0⟩:=bx1 w #[.bool false,.slice none 0 0,.bool false,.slice none 0 0] 86
 rw[hw0]
 have hs0:w.heap.size≤w0.heap.size:=hb0.size
 clear hw0
 refine(HZ1.out w0).mono ?_
 rintro e w1 ⟨⟨s2,p2,n2,e2,rfl,hz2⟩,hb1⟩
 have HA:=Kh hz2
 have HB1:=Kh (hb0.trans (hb1.mono hs0))
 have HX0:=Kh (X0.below_ hb1 X0.lt)
 clear hz2 hb0 hb1 X0 hs0 HZ1
 go_wp2_with fail
 refine(HZ2.out w1).mono ?_
 rintro e w4 ⟨⟨s3,p3,n3,e3,rfl,hz3⟩,hb4⟩
 have HQ:=Kh (show Qs w4 s2 p2 n2 e2 s3 p3 n3 e3 (n:Rat)by
  unfold Qs
  rw[Rat.num_intCast,Rat.den_intCast]
  exact⟨HA.out.keep hb4,hz3⟩)
 have HR:=Kh (bk HX0 hb4)
 have HB:=bt HB1 hb4
 have HG:=Kh (rfl:(n:Rat)=(n:Rat))
 clear hz3 hb4 HZ2 HB1 HX0 HA
 have r0:=HR.out.at_ 0 rfl
 have r1:=HR.out.at_ 1 rfl
 have r2:=HR.out.at_ 2 rfl
 have r3:=HR.out.at_ 3 rfl
 have f0:=HR.out.free_ 0
 have f1:=HR.out.free_ 1
 have f2:=HR.out.free_ 2
 have f3:=HR.out.free_ 3
 obtain⟨w9,hw9⟩:∃ w9,(((w4.setCell ⟨w.heap.size,0,none⟩ (.bool s2)).setCell ⟨w.heap.size,1,none⟩ (.slice p2 n2 e2)).setCell ⟨w.heap.size,2,none⟩ (.bool s3)).setCell ⟨w.heap.size,3,none⟩ (.slice p3 n3 e3)=w9:=⟨_,rfl⟩
 obtain⟨E0,E1,E2,E3,hq9⟩:=rat_put HR.out HQ.out hw9
 have hb9:Below w.heap.size w w9:=by rw[← hw9];exact below_putR HB.out (by omega) _ _ _ _
 have HW9:=Kh hw9
 have HE9:=Kh (And.intro E0 (And.intro E1 (And.intro E2 E3)))
 have HQ9:=Kh hq9
 have HB9:=Kh hb9
 clear E0 E1 E2 E3 hq9 hb9 hw9 HQ HB HR
 go_wp2
 try rw[HW9.out]
 obtain⟨E0,E1,E2,E3⟩:=HE9.out
 try simp only[Exit.inBlock,Exit.then]
 refine bodyPost_ret (by simp[results,Tryz.results78,go_sem,E0,E1,E2,E3];try rfl) rfl ?_
 exact⟨⟨s2,p2,n2,e2,s3,p3,n3,e3,rfl,HQ9.out⟩,HB9.out⟩
theorem c_SameRat (s:Bool) (p:Option Addr) (n c:Nat) (t:Bool) (q:Option Addr) (m d:Nat) (x:Rat) (s':Bool) (p':Option Addr) (n' c':Nat) (t':Bool) (q':Option Addr) (m' d':Nat) (y:Rat) (w:World) (h:Qs w s p n c t q m d x) (h':Qs w s' p' n' c' t' q' m' d' y) (hx:hq x≤35184372088830):
  Calls Tryz.prog 72 #[.agg #[.bool s,.slice p n c,.bool t,.slice q m d],.agg #[.bool s',.slice p' n' c',.bool t',.slice q' m' d']] w fun e w'=>e=.returned (.bool (decide (x=y)))∧Below w.heap.size w w':=by
 obtain⟨r,hr⟩:∃ r,decide (x=y)=r:=⟨_,rfl⟩
 rw[hr]
 have HR:=Kh hr
 have HS:=Kh h.sizes
 have H1:=Kh (fun w1 (hb:Below w.heap.size w w1)=>c_SameInt s p n c x.num s' p' n' c' y.num w1 (h.1.keep hb) (h'.1.keep hb) (by have:=h.sizes;omega))
 have H2:=Kh (fun w1 (hb:Below w.heap.size w w1)=>c_SameInt t q m d x.den t' q' m' d' y.den w1 (h.2.keep hb) (h'.2.keep hb) (by have:=h.sizes;omega))
 clear h h' hx hr
 go_enter Tryz.func72,Tryz.ntmps72
 go_wp2_with fail
 obtain⟨w0,hw0,X0,X1,hb0⟩:=bx2 w #[.bool s,.slice p n c,.bool t,.slice q m d] 86 #[.bool s',.slice p' n' c',.bool t',.slice q' m' d'] 86
 rw[hw0]
 have hs0:w.heap.size≤w0.heap.size:=hb0.size
 clear hw0
 have a0:=X0.at_ 0 rfl
 have a1:=X0.at_ 1 rfl
 have b0:=X1.at_ 0 rfl
 have b1:=X1.at_ 1 rfl
 have HX0:=Kh X0
 have HX1:=Kh X1
 have HB:=Kh hb0
 clear X0 X1 hb0 hs0
 refine(H1.out w0 HB.out).mono ?_
 rintro e w1 ⟨rfl,hb1⟩
 have HB1:=bt HB hb1
 replace HX0:=Kh (bk HX0 hb1)
 replace HX1:=Kh (bk HX1 hb1)
 have a2:=HX0.out.at_ 2 rfl
 have a3:=HX0.out.at_ 3 rfl
 have b2:=HX1.out.at_ 2 rfl
 have b3:=HX1.out.at_ 3 rfl
 clear hb1 a0 a1 b0 b1 HB H1
 by_cases h1:x.num=y.num
 ·rw[decide_eq_true h1]
  go_wp2_with fail
  refine(H2.out w1 HB1.out).mono ?_
  rintro e w2 ⟨rfl,hb2⟩
  have HB2:=bt HB1 hb2
  obtain⟨z,hz⟩:∃ z,decide ((x.den:Int)=y.den)=z:=⟨_,rfl⟩
  have HE:=Kh (show z=r by
   rw[← HR.out,← hz,decide_eq_decide]
   exact⟨fun h=>Rat.ext h1 (by omega),fun h=>by rw[h]⟩)
  rw[hz]
  clear hb2 H2 HB1 hz h1 HR
  go_wp2
  go_ret
  exact⟨ret_b HE.out,HB2.out⟩
 ·rw[decide_eq_false h1]
  have HE:=Kh (show false=r by
   rw[← HR.out]
   exact(decide_eq_false fun h=>h1 (by rw[h])).symm)
  clear H2 h1 HR
  go_wp2
  go_ret
  exact⟨ret_b HE.out,HB1.out⟩
theorem c_SameRats_eq (v1 v2:Value) (n:Nat) (f:Nat→Rat) (w:World) (h1:QL (fun j=>IsQ (f j)) w v1 n) (h2:QL (fun j=>IsQ (f j)) w v2 n) (hn:n≤1000000) (hf:∀ j,j<n→hq (f j)≤35184372088830):
  Calls Tryz.prog 27 #[v1,v2] w fun e w'=>e=.returned (.bool true)∧Below w.heap.size w w':=by
 rcases Nat.eq_zero_or_pos n with rfl|hpos
 ·have e1:∃ a c,v1=.slice a 0 c:=by
   rcases h1 with⟨_,h⟩ |⟨_,_,_,e,_⟩
   ·exact h
   ·exact⟨_,_,e⟩
  have e2:∃ a c,v2=.slice a 0 c:=by
   rcases h2 with⟨_,h⟩ |⟨_,_,_,e,_⟩
   ·exact h
   ·exact⟨_,_,e⟩
  obtain⟨a1,c1,rfl⟩:=e1
  obtain⟨a2,c2,rfl⟩:=e2
  clear h1 h2 hf hn
  go_enter Tryz.func27,Tryz.ntmps27
  go_wp2
  go_loopw [5] (fun i wr=>i=.int .i64 0∧wr=w) (fun _ _=>0)
  case atStart=>exact⟨rfl,rfl⟩
  case round=>
   obtain⟨rfl,rfl⟩:=hrel
   go_wp2
   go_ret
   exact⟨rfl,Below.refl _ _⟩
 ·obtain⟨g1,o1,l1,rfl,hg1,r1⟩:=h1.resolve_left (fun h=>by omega)
  obtain⟨g2,o2,l2,rfl,hg2,r2⟩:=h2.resolve_left (fun h=>by omega)
  have R1:=Kh r1
  have R2:=Kh r2
  have HF:=Kh hf
  clear h1 h2 r1 r2 hf
  go_enter Tryz.func27,Tryz.ntmps27
  go_wp2
  go_loopw [5] (fun i wr=>∃ k:Nat,k≤n∧i=.int .i64 k∧Below w.heap.size w wr) (fun i _=>n - (intOf i).toNat)
  case atStart=>exact⟨0,Nat.zero_le _,rfl,Below.refl _ _⟩
  case round=>
   obtain⟨k,hk,rfl,hb⟩:=hrel
   by_cases hlt:k<n
   ·have HB:=Kh hb
    obtain⟨s,p,i1,c,t,q,m,d,a0,a1,a2,a3,hx⟩:=(R1.out k hlt).keep (IsQ.solid _) hb
    obtain⟨s',p',i1',c',t',q',m',d',b0,b1,b2,b3,hy⟩:=(R2.out k hlt).keep (IsQ.solid _) hb
    have HC:=Kh (fun w1 (h:Below wr.heap.size wr w1)=>c_SameRat s p i1 c t q m d (f k) s' p' i1' c' t' q' m' d' (f k) w1 (Qs.keep hx h) (Qs.keep hy h) (HF.out k hlt))
    simp only[decide_true]at HC
    clear hx hy hb
    go_upto_region 6 with(fail)
    have hS0:=S8_0_next (Below.refl _ wr).drew ⟨a0,a1,a2,a3,b0,b1,b2,b3,Below.refl _ _,Below.size (show Below wr.heap.size wr wr from Below.refl _ _)⟩
    clear a0 a1 a2 a3 b0 b1 b2 b3
    have M1:True:=trivial
    go_region_held3 (fun w1=>w1.cell? ⟨g1,o1+k*4,none⟩=some (.bool s)∧w1.cell? ⟨g1,o1+k*4+1,none⟩=some (.slice p i1 c)∧w1.cell? ⟨g1,o1+k*4+2,none⟩=some (.bool t)∧w1.cell? ⟨g1,o1+k*4+3,none⟩=some (.slice q m d)∧w1.cell? ⟨g2,o2+k*4,none⟩=some (.bool s')∧w1.cell? ⟨g2,o2+k*4+1,none⟩=some (.slice p' i1' c')∧w1.cell? ⟨g2,o2+k*4+2,none⟩=some (.bool t')∧w1.cell? ⟨g2,o2+k*4+3,none⟩=some (.slice q' m' d')∧Below wr.heap.size wr w1∧wr.heap.size≤w1.heap.size)
     (first|with_reducible exact hS0 |(refine S8_0_next (by with_reducible assumption) ?_;assumption))
     (first
      |(go_at_call 72;refine(HC.out _ (S8_0_below (by with_reducible assumption))).mono ?_;rintro e w2 ⟨rfl,hb2⟩;have HB2:=Kh (Below.trans HB.out (Below.mono (Below.trans (S8_0_below (by with_reducible assumption)) (Below.mono hb2 (Below.size (S8_0_below (by with_reducible assumption))))) HB.out.size))))
    go_wp2
    go_roundw
    case rel=>exact⟨k+1,by omega,by go_num,HB2.out⟩
    case measure=>simp[intOf];omega
   ·obtain rfl:k=n:=by omega
    have HB:=Kh hb
    clear hb
    go_wp2
    go_ret
    exact⟨rfl,HB.out⟩
theorem ratInfo:(Tryz.prog.info? 86).map (fun i=>(i.zero,i.size,i.bytes))=some (some (.agg #[.bool false,.slice none 0 0,.bool false,.slice none 0 0]),4,64):=by kernel_rfl
theorem one4 (s t:Bool) (p q:Option Addr) (n c m d:Nat):∀ u∈[Value.bool s,.slice p n c,.bool t,.slice q m d],u.oneCell'=true:=by
 intro u hu
 simp at hu
 rcases hu with rfl|rfl|rfl|rfl <;> rfl
theorem ni4 (s t:Bool) (p q:Option Addr) (n c m d:Nat):∀ u∈[Value.bool s,.slice p n c,.bool t,.slice q m d],NotInt u:=by
 intro u hu
 simp at hu
 rcases hu with rfl|rfl|rfl|rfl <;> first|exact NotInt.bool _|exact NotInt.slice _ _ _
theorem niz:∀ u∈(Value.agg #[.bool false,.slice none 0 0,.bool false,.slice none 0 0]).cells.toList,NotInt u:=by
 intro u hu
 simp[Value.cells]at hu
 rcases hu with rfl|rfl|rfl|rfl <;> first|exact NotInt.bool _|exact NotInt.slice _ _ _
end Go.Proofs.YtenlbhlllgppmaaGreatDoor
