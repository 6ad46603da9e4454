/- Rows of terms (a column and a fraction) in memory, and append as a step of a region that draws its order. -/
import Derived.Test.YtijgdhijdfgpfaaGreatDoorY24
import Derived.Test.YtijgdhijdfgpfaaGreatDoorY26
import Derived.Test.YtijgdhijdfgpfaaGreatDoorY27
namespace Go.Proofs.YtijgdhijdfgpfaaGreatDoor
open Go.RowKit
theorem step_app2 {P:Program} {W:World} {ops:Array Oper} {o:Oper} {a:Act} {K':Act→World→Prop} {Q:Exit→Act→World→Prop} {E':Prop} (K:Value→Prop) (hgd:o.guard=none) (s x:Operand) (t E:TypeId)
  (ho:o.op=.call { callee:=.builtin .append,args:=#[s,x],argTypes:=#[t,t] }) {z:Value} {sz bytes:Nat} (hU:P.underlying t=some (.slice E))
  (hinfo:(P.info? E).map (fun i=>(i.zero,i.size,i.bytes))=some (some z,sz,bytes)) (hzs:z.cells.size=sz) (hsz:0<sz) (B n:Nat) (v:Value) (xs news:List Value)
  (hs:a.eval s=v) (hown:OwnK K W B E sz v n xs) (hx:a.eval x=.slice (some ⟨W.heap.size,0,none⟩) 1 1) (hn:news.length=sz) (h1:∀ u∈news,u.oneCell'=true)
  (hb:(n+1)*bytes≤140737488355328) (hm:n+1≤9223372036854775807) (hB:B≤W.heap.size) (hKn:∀ u∈news,K u) (hKz:∀ u∈z.cells.toList,K u)
  (h:∀ v' w',OwnK K w' B E sz v' (n+1) (xs++news)→W.grownBy w' v.ownBlock→(v'.ownBlock=v.ownBlock∨v'.ownBlock=some (W.heap.size+1))→K' (a.put o.dst v') w'):
  if Region.wanted o (yielded ops a.tmps)=true then Oper.wp P o a (W.alloc (.cells news.toArray E)) K' Q else E':=by
 have hw:Region.wanted o (yielded ops a.tmps)=true:=by simp[Region.wanted,hgd]
 rw[if_pos hw]
 obtain⟨i0,hi,hz0,hz1,hz2⟩:=info_parts hinfo
 have hcell:∀ (j:Nat) (u:Value),news[j]?=some u→(W.alloc (.cells news.toArray E)).cell? ((⟨W.heap.size,0,none⟩:Addr).add j)=some u:=by
  intro j u hu
  have hc:=(Blk.new W E news.toArray).cell_ j
  have e:(⟨W.heap.size,0,none⟩:Addr).add j=⟨W.heap.size,j,none⟩:=by
   unfold Addr.add;split
   ·rename_i h0;rw[h0]
   ·simp
  rw[e,hc]
  simpa using hu
 have hown2:OwnK K (W.alloc (.cells news.toArray E)) B E sz v n xs:=hown.keep ((Below.refl _ _).alloc (Nat.le_refl _) _)
 obtain⟨v',w',hr,g1,g2,_,g3⟩:=run_append_own_at (P:=P) (W.alloc (.cells news.toArray E)) B t o.type E i0 z sz bytes hU hi hz0 hz1 hz2 hzs hsz v n xs hown2.1 ⟨W.heap.size,0,none⟩ 1 1 news (by omega) hcell h1 hm hb (by simp;omega)
 have g4:=append_stk K (W.alloc (.cells news.toArray E)) B t o.type E i0 z sz bytes hU hi hz0 hz1 hz2 hzs hsz v n xs hown2.1 ⟨W.heap.size,0,none⟩ 1 1 news (by omega) hcell h1 hm hb (by omega) hown2.2 hKn hKz hr
 unfold Oper.wp execOp
 simp only[ho,resolve,invoke,builtin,Sem.run_bind,Sem.run_pure,Result.andThen_ok,List.map_toArray,List.map_cons,List.map_nil,hs,hx,hr]
 refine h v' w' ⟨g1,g4⟩ (grown_of_alloc g2) ?_
 rcases g3 with g3|g3
 ·exact .inl g3
 ·exact .inr (by rw[g3];simp)
theorem I32.putU {w:World} {R:Nat} (hs:Stk NotU32 w R) (i:Nat) (u:Value):I32 w (w.setCell ⟨R,i,none⟩ u):=
 ⟨by simp,fun g j n e=>by
  have hne:R≠g:=fun e2=>hs.2 j _ (by rw[e2];exact e) _ rfl
  rw[World.cell?_setCell_far w ⟨R,i,none⟩ ⟨g,j,none⟩ u hne]
  exact e⟩
theorem Stk.putU {K:Value→Prop} {w:World} {R:Nat} (h:Stk K w R) (p:Addr) (u:Value) (hu:K u):Stk K (w.setCell p u) R:=by
 refine⟨by simpa using h.1,fun i v hv=>?_⟩
 by_cases hp:p=⟨R,i,none⟩
 ·cases hc:w.cell? p with
  | none=>
   have:((w.setCell p u).cell? p)=none:=setCell_none u hc
   rw[← hp,this]at hv;cases hv
  | some y=>
   rw[← hp,World.cell?_setCell_same' _ _ _ (by rw[hc];rfl)]at hv
   injection hv with hv
   rw[← hv];exact hu
 ·rw[World.cell?_setCell_other _ _ _ _ hp]at hv
  exact h.2 i v hv
def TE (x:Nat×Rat) (w:World) (g i:Nat):Prop:=w.cell? ⟨g,i,none⟩=some (.int .i64 (x.1:Int))∧QE (IsQ x.2) w g (i+1)
theorem TE.keep {x:Nat×Rat} {w w':World} {g i:Nat} (h:TE x w g i) (hb:Below w.heap.size w w'):TE x w' g i:=
 ⟨(hb.cell (p:=⟨g,i,none⟩) (World.block_lt_of_cell? w ⟨g,i,none⟩ h.1)).trans h.1,h.2.keep (IsQ.solid _) hb⟩
theorem TE.next {x:Nat×Rat} {B:Nat} {w w':World} {g i:Nat} (h:TE x w g i) (hg:g<B) (h32:I32 w w') (hb:Below B w w'):TE x w' g i:=by
 have hk:∀ j v,w.cell? ⟨g,j,none⟩=some v→w'.cell? ⟨g,j,none⟩=some v:=fun j v e=>(hb.cell (p:=⟨g,j,none⟩) hg).trans e
 obtain⟨e,s,p,n,c,t,q,m,d,h0,h1,h2,h3,h4⟩:=h
 exact⟨hk _ _ e,s,p,n,c,t,q,m,d,hk _ _ h0,hk _ _ h1,hk _ _ h2,hk _ _ h3,h4.i32 h32⟩
def TL (l:List (Nat×Rat)) (w:World) (B:Nat) (v:Value):Prop:=
 (l=[]∧∃ a c,v=.slice a 0 c)∨∃ g o cap,v=.slice (some ⟨g,o,none⟩) l.length cap∧l.length≤cap∧cap≤9223372036854775807∧g<B∧∀ j x,l[j]?=some x→TE x w g (o+j*5)
theorem TL.next {l:List (Nat×Rat)} {w w':World} {B:Nat} {v:Value} (h:TL l w B v) (h32:I32 w w') (hb:Below B w w'):TL l w' B v:=by
 rcases h with h |⟨g,o,cap,e,hc,hc2,hg,ht⟩
 ·exact .inl h
 ·exact .inr ⟨g,o,cap,e,hc,hc2,hg,fun j x hx=>(ht j x hx).next hg h32 hb⟩
theorem TL.keep {l:List (Nat×Rat)} {w w':World} {B:Nat} {v:Value} (h:TL l w B v) (hB:B≤w.heap.size) (hb:Below w.heap.size w w'):TL l w' B v:=h.next (I32.below hb) (hb.mono hB)
theorem TL.up {l:List (Nat×Rat)} {w:World} {B B':Nat} {v:Value} (h:TL l w B v) (hB:B≤B'):TL l w B' v:=by
 rcases h with h |⟨g,o,cap,e,hc,hc2,hg,ht⟩
 ·exact .inl h
 ·exact .inr ⟨g,o,cap,e,hc,hc2,by omega,ht⟩
theorem TL.cons {x:Nat×Rat} {l:List (Nat×Rat)} {w:World} {B:Nat} {v:Value} (h:TL (x :: l) w B v):
  ∃ g o cap,v=.slice (some ⟨g,o,none⟩) (l.length+1) (cap+1)∧l.length≤cap∧cap<9223372036854775807∧g<B∧TE x w g o∧TL l w B (.slice (some ⟨g,o+5,none⟩) l.length cap):=by
 rcases h with⟨h,_⟩ |⟨g,o,cap,e,hc,hc2,hg,ht⟩
 ·cases h
 ·rw[List.length_cons]at e hc
  obtain⟨c,rfl⟩:∃ c,cap=c+1:=⟨cap - 1,by omega⟩
  refine⟨g,o,c,e,by omega,by omega,hg,by simpa using ht 0 x rfl,.inr ⟨g,o+5,c,rfl,by omega,by omega,hg,fun j y hy=>?_⟩⟩
  have h1:=ht (j+1) y hy
  rw[show o+(j+1)*5=o+5+j*5 by omega]at h1
  exact h1
theorem TL.nil {w:World} {B:Nat} {v:Value} (h:TL [] w B v):∃ a c,v=.slice a 0 c:=by
 rcases h with⟨_,h⟩ |⟨g,o,cap,e,_⟩
 ·exact h
 ·exact⟨_,_,e⟩
theorem TL.cut {l:List (Nat×Rat)} {w:World} {B:Nat} {a:Option Addr} {cap:Nat} (X:Option Addr) (h:TL l w B (.slice a l.length cap)) (hc:l.length≤cap):TL l w B (.slice (if cap=0 then X else a) l.length cap):=by
 by_cases h0:cap=0
 ·rw[if_pos h0]
  have hl:l=[]:=List.eq_nil_of_length_eq_zero (by omega)
  subst hl
  exact .inl ⟨rfl,_,_,rfl⟩
 ·rw[if_neg h0];exact h
def TX (x:Nat×Rat) (w:World) (xs:List Value) (i:Nat):Prop:=xs[i]?=some (.int .i64 (x.1:Int))∧QX (IsQ x.2) w xs (i+1)
def OwnT (l:List (Nat×Rat)) (w:World) (B:Nat) (v:Value):Prop:=∃ xs,OwnK NotU32 w B 99 5 v l.length xs∧∀ j x,l[j]?=some x→TX x w xs (j*5)
theorem OwnT.nil (w:World) (B:Nat):OwnT [] w B (.slice none 0 0):=⟨[],OwnK.nil _ _ _ _ _,fun j x hx=>by simp at hx⟩
theorem OwnT.keep {l:List (Nat×Rat)} {w w':World} {B:Nat} {v:Value} (h:OwnT l w B v) (hb:Below w.heap.size w w'):OwnT l w' B v:=by
 obtain⟨xs,h1,h2⟩:=h
 exact⟨xs,h1.keep hb,fun j x hx=>⟨(h2 j x hx).1,(h2 j x hx).2.i32 (IsQ.solid _) (I32.below hb)⟩⟩
theorem app_left {xs ys:List Value} {j:Nat} {v:Value} (e:xs[j]?=some v):(xs++ys)[j]?=some v:=by
 rw[List.getElem?_append_left]
 ·exact e
 ·rcases Nat.lt_or_ge j xs.length with hlt|hge
  ·exact hlt
  ·rw[List.getElem?_eq_none hge]at e;cases e
theorem OwnT.push {l:List (Nat×Rat)} {W w':World} {B:Nat} {v v':Value} {xs:List Value} (h1:OwnK NotU32 W B 99 5 v l.length xs) (h2:∀ j x,l[j]?=some x→TX x W xs (j*5))
  (a:Nat) (r:Rat) {s t:Bool} {p q:Option Addr} {k c m d:Nat} (hq:Qs W s p k c t q m d r) (h3:OwnK NotU32 w' B 99 5 v' (l.length+1) (xs++[.int .i64 (a:Int),.bool s,.slice p k c,.bool t,.slice q m d])) (hg:W.grownBy w' v.ownBlock):OwnT (l++[(a,r)]) w' B v':=by
 have h32:=I32.grown (K:=NotU32) (fun x=>not_u32 x) h1.2 hg
 have hl:xs.length=l.length*5:=h1.1.1
 refine⟨_,by rw[List.length_append];exact h3,fun j x hx=>?_⟩
 by_cases hj:j<l.length
 ·rw[List.getElem?_append_left hj]at hx
  obtain⟨e0,e1⟩:=h2 j x hx
  exact⟨app_left e0,(e1.i32 (IsQ.solid _) h32).app⟩
 ·rw[List.getElem?_append_right (by omega)]at hx
  have hj2:j=l.length:=by
   rcases Nat.eq_zero_or_pos (j - l.length)with h|h
   ·omega
   ·rw[List.getElem?_eq_none (by rw[List.length_singleton];omega)]at hx;cases hx
  subst hj2
  rw[Nat.sub_self]at hx
  injection hx with hx
  subst hx
  refine⟨?_,s,p,k,c,t,q,m,d,?_,?_,?_,?_,hq.i32 h32⟩
  ·rw[List.getElem?_append_right (by omega),hl,show l.length*5 - l.length*5=0 by omega];rfl
  ·rw[List.getElem?_append_right (by omega),hl,show l.length*5+1 - l.length*5=1 by omega];rfl
  ·rw[List.getElem?_append_right (by omega),hl,show l.length*5+1+1 - l.length*5=2 by omega];rfl
  ·rw[List.getElem?_append_right (by omega),hl,show l.length*5+1+2 - l.length*5=3 by omega];rfl
  ·rw[List.getElem?_append_right (by omega),hl,show l.length*5+1+3 - l.length*5=4 by omega];rfl
structure TRow (l:List (Nat×Rat)) (w:World) (g:Nat):Prop where
 stk:Stk NotU32 w g
 free:∀ i,i<l.length*5→w.frozen? ⟨g,i,none⟩=false
 has:∀ i,i<l.length*5→(w.cell? ⟨g,i,none⟩).isSome=true
 val:∀ j x,l[j]?=some x→TE x w g (j*5)
theorem OwnT.row {l:List (Nat×Rat)} {w:World} {B:Nat} {v:Value} (h:OwnT l w B v):(l=[]∧v=.slice none 0 0)∨∃ g cap,v=.slice (some ⟨g,0,none⟩) l.length cap∧l.length≤cap∧cap≤9223372036854775807∧B≤g∧g<w.heap.size∧TRow l w g:=by
 obtain⟨xs,h1,h2⟩:=h
 rcases h1.1.2 with⟨e1,e2⟩ |⟨g,cap,cs,e1,hB,hg,hn,hcm,hcs,_⟩
 ·exact .inl ⟨List.eq_nil_of_length_eq_zero e2,e1⟩
 ·right
  have hl:xs.length=l.length*5:=h1.1.1
  have hs:=h1.2 g (by rw[e1];rfl)
  subst e1
  refine⟨g,cap,rfl,hn,by simp only[maxLen]at hcm;omega,hB,hs.1,⟨hs,fun i _=>?_,fun i hi=>?_,fun j x hx=>?_⟩⟩
  ·exact Blk.free_ hg i
  ·rw[own_read h1.1 (List.getElem?_eq_getElem (by omega:i<xs.length))];rfl
  ·obtain⟨e0,s,p,n,c,t,q,m,d,f0,f1,f2,f3,f4⟩:=h2 j x hx
   exact⟨own_read h1.1 e0,s,p,n,c,t,q,m,d,own_read h1.1 f0,own_read h1.1 f1,own_read h1.1 f2,own_read h1.1 f3,f4⟩
theorem OwnT.tl {l:List (Nat×Rat)} {w:World} {B:Nat} {v:Value} (h:OwnT l w B v):TL l w w.heap.size v:=by
 rcases h.row with⟨rfl,rfl⟩ |⟨g,cap,rfl,h1,h2,_,h3,h4⟩
 ·exact .inl ⟨rfl,_,_,rfl⟩
 ·exact .inr ⟨g,0,cap,rfl,h1,h2,h3,fun j x hx=>by rw[Nat.zero_add];exact h4.val j x hx⟩
theorem termInfo:(Tryz.prog.info? 99).map (fun i=>(i.zero,i.size,i.bytes))=some (some (.agg #[.int .i64 0,.bool false,.slice none 0 0,.bool false,.slice none 0 0]),5,72):=by kernel_rfl
theorem oneT (a:Int) (s:Bool) (p:Option Addr) (n c:Nat) (t:Bool) (q:Option Addr) (m d:Nat):∀ u∈[Value.int .i64 a,.bool s,.slice p n c,.bool t,.slice q m d],u.oneCell'=true:=by
 intro u hu
 simp at hu
 rcases hu with rfl|rfl|rfl|rfl|rfl <;> rfl
theorem nuT (a:Int) (s:Bool) (p:Option Addr) (n c:Nat) (t:Bool) (q:Option Addr) (m d:Nat):∀ u∈[Value.int .i64 a,.bool s,.slice p n c,.bool t,.slice q m d],NotU32 u:=by
 intro u hu
 simp at hu
 rcases hu with rfl|rfl|rfl|rfl|rfl <;> exact fun _ h=>by cases h
theorem nuTz:∀ u∈(Value.agg #[.int .i64 0,.bool false,.slice none 0 0,.bool false,.slice none 0 0]).cells.toList,NotU32 u:=by
 intro u hu
 simp[Value.cells]at hu
 rcases hu with rfl|rfl|rfl|rfl|rfl <;> exact fun _ h=>by cases h
end Go.Proofs.YtijgdhijdfgpfaaGreatDoor
