/- Contract of halfplaneref09.Reduce: the rows are reduced. -/
import Derived.Test.YthikonjlgljikaaGreatDoorV42
import Derived.Test.YthikonjlgljikaaGreatDoorV40
set_option linter.unusedSimpArgs false
set_option maxRecDepth 100000
set_option maxHeartbeats 8000000
namespace Go.Proofs.YthikonjlgljikaaGreatDoor
open Go.RowKit Eli
def pvs (ld:Nat→Bool) (c:Nat):List Nat:=(List.range c).filter ld
theorem pvs_succ (ld:Nat→Bool) (c:Nat):pvs ld (c+1)=if ld c then pvs ld c++[c]else pvs ld c:=by
 rw[pvs,List.range_succ,List.filter_append,List.filter_cons]
 cases ld c with
 | true=>rfl
 | false=>exact List.append_nil _
theorem pvs_congr {ld ld':Nat→Bool} {c:Nat} (h:∀ j,j<c→ld' j=ld j):pvs ld' c=pvs ld c:=List.filter_congr (fun j hj=>h j (List.mem_range.1 hj))
theorem pvs_mem {ld:Nat→Bool} {c p:Nat}:p∈pvs ld c↔p<c∧ld p=true:=by rw[pvs,List.mem_filter,List.mem_range]
theorem pvs_length (ld:Nat→Bool) (c:Nat):(pvs ld c).length≤c:=by
 have:=List.length_filter_le ld (List.range c)
 rw[List.length_range]at this
 exact this
theorem pvs_stop {ld:Nat→Bool} {c n:Nat} (hc:c≤n) (h:∀ p,ld p=true→p<c):pvs ld n=pvs ld c:=by
 induction n with
 | zero=>obtain rfl:c=0:=by omega
         rfl
 | succ n ih=>
  by_cases e:c=n+1
  ·rw[e]
  ·rw[pvs_succ,if_neg (fun hl=>by have:=h n hl;omega),ih (by omega)]
def clr (pv:Nat→Rat) (c:Nat) (x:Nat→Rat):Nat→Rat:=fun q=>x q+-(x c)*pv q
def rst (la:List (Nat→Rat)) (pv:Nat→Rat) (c t:Nat):Nat→List (Nat→Rat)
 | 0=>[]
 | i+1=>if i=t then rst la pv c t i else rst la pv c t i++[clr pv c (la.getD i (fun _=>0))]
theorem rst_mem {la:List (Nat→Rat)} {pv:Nat→Rat} {c t:Nat} {x:Nat→Rat}:∀ {i:Nat},x∈rst la pv c t i↔∃ j,j<i∧j≠t∧x=clr pv c (la.getD j (fun _=>0))
 | 0=>⟨fun h=>(by cases h),fun⟨j,h,_⟩=>absurd h (Nat.not_lt_zero _)⟩
 | i+1=>by
  rw[rst]
  split
  ·rename_i e
   rw[rst_mem]
   exact⟨fun⟨j,h1,h2,h3⟩=>⟨j,by omega,h2,h3⟩,fun⟨j,h1,h2,h3⟩=>⟨j,by omega,h2,h3⟩⟩
  ·rename_i e
   rw[List.mem_append,rst_mem,List.mem_singleton]
   constructor
   ·rintro(⟨j,h1,h2,h3⟩|h)
    ·exact⟨j,by omega,h2,h3⟩
    ·exact⟨i,Nat.lt_succ_self _,e,h⟩
   ·rintro⟨j,h1,h2,h3⟩
    by_cases hj:j=i
    ·subst hj;exact .inr h3
    ·exact .inl ⟨j,by omega,h2,h3⟩
theorem rst_length (la:List (Nat→Rat)) (pv:Nat→Rat) (c t:Nat):∀ i,(rst la pv c t i).length≤i
 | 0=>Nat.le_refl _
 | i+1=>by
  rw[rst]
  have:=rst_length la pv c t i
  split
  ·omega
  ·rw[List.length_append,List.length_singleton];omega
def mixR (lo:List (Nat→Rat)) (pv:Nat→Rat) (c i:Nat):List (Nat→Rat):=lo.mapIdx fun j x=>if j<i then clr pv c x else x
theorem mixR_length (lo:List (Nat→Rat)) (pv:Nat→Rat) (c i:Nat):(mixR lo pv c i).length=lo.length:=by unfold mixR;rw[List.length_mapIdx]
theorem mixR_zero (lo:List (Nat→Rat)) (pv:Nat→Rat) (c:Nat):mixR lo pv c 0=lo:=by
 refine List.ext_getElem? fun j=>?_
 unfold mixR
 rw[List.getElem?_mapIdx]
 cases lo[j]? <;> simp
theorem mixR_all (lo:List (Nat→Rat)) (pv:Nat→Rat) (c:Nat):mixR lo pv c lo.length=lo.map (clr pv c):=by
 refine List.ext_getElem? fun j=>?_
 unfold mixR
 rw[List.getElem?_mapIdx,List.getElem?_map]
 by_cases h:j<lo.length
 ·rw[List.getElem?_eq_getElem h];simp[h]
 ·rw[List.getElem?_eq_none (by omega)];rfl
theorem mixR_at {lo:List (Nat→Rat)} {pv:Nat→Rat} {c i:Nat} {x:Nat→Rat} (h:lo[i]?=some x):(mixR lo pv c i)[i]?=some x:=by
 unfold mixR
 rw[List.getElem?_mapIdx,h];simp
theorem mixR_set {lo:List (Nat→Rat)} {pv:Nat→Rat} {c i:Nat} {x:Nat→Rat} (h:lo[i]?=some x):(mixR lo pv c i).set i (clr pv c x)=mixR lo pv c (i+1):=by
 refine List.ext_getElem? fun j=>?_
 have hi:i<lo.length:=by
  rcases Nat.lt_or_ge i lo.length with h1|h1
  ·exact h1
  ·rw[List.getElem?_eq_none h1]at h;cases h
 by_cases e:j=i
 ·subst e
  rw[List.getElem?_set_self (by rw[mixR_length];exact hi)]
  unfold mixR
  rw[List.getElem?_mapIdx,h];simp
 ·rw[List.getElem?_set_ne (fun h=>e h.symm)]
  unfold mixR
  rw[List.getElem?_mapIdx,List.getElem?_mapIdx]
  cases lo[j]? with
  | none=>rfl
  | some y=>
   simp only[Option.map_some]
   by_cases h1:j<i
   ·rw[if_pos h1,if_pos (by omega)]
   ·rw[if_neg h1,if_neg (by omega)]
def rowsL (rows:Nat→Nat→Int) (m:Nat):List (Nat→Rat):=(List.range m).map fun i q=>((rows i q:Int):Rat)
theorem rowsL_length (rows:Nat→Nat→Int) (m:Nat):(rowsL rows m).length=m:=by unfold rowsL;rw[List.length_map,List.length_range]
def inL (la:List (Nat→Rat)):(Nat→Rat)→Prop:=fun a=>∃ x,x∈la∧∀ q,a q=x q
theorem gj_start {n B m:Nat} {rows:Nat→Nat→Int} (hB:1≤B):GjAt n B rows m 0 (fun _=>false) unitQ unitZ (fun _ _=>0) (inL (rowsL rows m)):=by
 refine(GjAt.start hB).same_rest (fun a ⟨x,hx,e⟩=>?_) (fun a ⟨i,hi,e⟩=>?_)
 ·obtain⟨i,hi,rfl⟩:=List.mem_map.1 hx
  exact⟨_,⟨i,List.mem_range.1 hi,fun _=>rfl⟩,e⟩
 ·exact⟨_,⟨_,List.mem_map.2 ⟨i,List.mem_range.2 hi,rfl⟩,fun _=>rfl⟩,fun q=>(e q).symm⟩
theorem gj_pivot {n B m c t:Nat} {rows:Nat→Nat→Int} {ld:Nat→Bool} {L:Nat→Nat→Rat} {R:Nat→Nat→Int} {O:Nat→Nat→Rat} {la:List (Nat→Rat)} {x:Nat→Rat}
  (h:GjAt n B rows m c ld L R O (inL la)) (hb:∀ i q,(rows i q).natAbs≤B) (hc:c<n) (hx:la[t]?=some x) (h0:x c≠0):
  ∃ ld' L' R' O',GjAt n B rows m (c+1) ld' L' R' O' (inL (rst la (fun q=>1 / x c*x q) c t la.length))∧(pvs ld' (c+1)).map O'=((pvs ld c).map O).map (clr (fun q=>1 / x c*x q) c)++[fun q=>1 / x c*x q]∧pvs ld' (c+1)=pvs ld c++[c]:=by
 have hxm:x∈la:=List.mem_of_getElem? hx
 have hgt:la.getD t (fun _=>0)=x:=by rw[List.getD_eq_getElem?_getD,hx];rfl
 have htl:t<la.length:=by
  rcases Nat.lt_or_ge t la.length with h1|h1
  ·exact h1
  ·rw[List.getElem?_eq_none h1]at hx;cases hx
 have hcl:∀ j,j<c→(ld j||decide (j=c))=ld j:=fun j hj=>by rw[decide_eq_false (by omega),Bool.or_false]
 obtain⟨L',R',hg⟩:=h.pivot hb hc (r:=x) ⟨x,hxm,fun _=>rfl⟩ h0 (A':=inL (rst la (fun q=>1 / x c*x q) c t la.length)) (O':=fun p=>if p=c then(fun q=>1 / x c*x q)else clr (fun q=>1 / x c*x q) c (O p)) (ld':=fun j=>ld j||decide (j=c)) (fun _=>rfl)
  (fun a' ⟨y,hy,e⟩=>by
   obtain⟨j,h1,h2,rfl⟩:=rst_mem.1 hy
   refine⟨la.getD j (fun _=>0),⟨_,?_,fun _=>rfl⟩,fun q=>?_⟩
   ·rw[List.getD_eq_getElem?_getD,List.getElem?_eq_getElem h1];exact List.getElem_mem h1
   ·rw[e,clr])
  (fun a ⟨y,hy,e⟩=>by
   obtain⟨j,hj,e2⟩:=List.getElem_of_mem hy
   have e3:la.getD j (fun _=>0)=y:=by rw[List.getD_eq_getElem?_getD,List.getElem?_eq_getElem hj,e2];rfl
   by_cases hjt:j=t
   ·left
    intro q
    rw[e,← e3,hjt,hgt]
   ·right
    exact⟨clr (fun q=>1 / x c*x q) c y,⟨_,rst_mem.2 ⟨j,hj,hjt,by rw[e3]⟩,fun _=>rfl⟩,fun q=>by rw[clr,e,e]⟩)
  (fun q=>by simp) (fun p hp q=>by
   have:p≠c:=by have:=h.lt p hp;omega
   simp only[if_neg this]
   rw[clr])
 have hps:pvs (fun j=>ld j||decide (j=c)) (c+1)=pvs ld c++[c]:=by
  rw[pvs_succ,if_pos (by simp),pvs_congr hcl]
 refine⟨_,L',R',_,hg,?_,hps⟩
 rw[hps,List.map_append,List.map_map]
 congr 1
 ·refine List.map_congr_left fun p hp=>?_
  have:p≠c:=by have:=(pvs_mem.1 hp).1;omega
  simp only[if_neg this,Function.comp]
 ·simp
theorem OwnG.all {l:List (Nat→Rat)} {N:Nat} {w:World} {B:Nat} {v:Value} {xs:List Value} (h1:OwnK SliceV w B 24 1 v l.length xs) (h2:∀ (j:Nat) x,l[j]?=some x→∃ vr,xs[j]?=some vr∧RowV x N w vr):∀ u∈xs,SliceV u:=by
 intro u hu
 obtain⟨j,hj,e⟩:=List.getElem_of_mem hu
 have hl:xs.length=l.length:=by have:=h1.1.1;omega
 obtain⟨vr,e1,⟨p,c,e2⟩,_⟩:=h2 j l[j] (List.getElem?_eq_getElem (by omega))
 rw[List.getElem?_eq_getElem hj,e]at e1
 injection e1 with e1
 exact⟨p,N,c,e1.trans e2⟩
theorem SliceV.one {u:Value} (h:SliceV u):u.oneCell'=true:=by
 obtain⟨p,n,c,rfl⟩:=h
 rfl
theorem sliceZ:∀ u∈(Value.slice none 0 0).cells.toList,SliceV u:=by
 intro u hu
 simp[Value.cells]at hu
 exact⟨none,0,0,hu⟩
theorem OwnG.val {l:List (Nat→Rat)} {N:Nat} {w:World} {B:Nat} {v:Value} (h:OwnG l N w B v):∃ p c,v=.slice p l.length c:=by
 obtain⟨xs,h1,_⟩:=h
 exact own_slice h1.1
theorem OwnN.val {l:List Nat} {w:World} {B:Nat} {v:Value} (h:OwnN l w B v):∃ p c,v=.slice p l.length c:=own_slice h.1
theorem OwnG.base {l:List (Nat→Rat)} {N:Nat} {w:World} {B B':Nat} {v:Value} (h:OwnG l N w B v) (hB:B'≤B):OwnG l N w B' v:=by
 obtain⟨xs,h1,h2⟩:=h
 refine⟨xs,⟨⟨h1.1.1,?_⟩,h1.2⟩,h2⟩
 rcases h1.1.2 with h |⟨g',cap,cs,e,hB',hr⟩
 ·exact .inl h
 ·exact .inr ⟨g',cap,cs,e,Nat.le_trans hB hB',hr⟩
theorem OwnG.ge {l:List (Nat→Rat)} {N:Nat} {w:World} {B g:Nat} {v:Value} (h:OwnG l N w B v) (e:v.ownBlock=some g):B≤g∧g<w.heap.size:=by
 obtain⟨xs,h1,_⟩:=h
 exact⟨own_ge h1.1 e.symm,(h1.2 g e).1⟩
theorem OwnN.ge {l:List Nat} {w:World} {B g:Nat} {v:Value} (h:OwnN l w B v) (e:v.ownBlock=some g):B≤g∧g<w.heap.size:=⟨own_ge h.1 e.symm,(h.2 g e).1⟩
theorem OwnK.but {K:Value→Prop} {w w':World} {B E sz n:Nat} {v:Value} {xs:List Value} {R:Option Nat} (h:OwnK K w B E sz v n xs) (hg:w.grownBy w' R) (hne:∀ g,v.ownBlock=some g→R≠some g):OwnK K w' B E sz v n xs:=by
 refine⟨h.1.kept hg ?_,fun g e=>?_⟩
 ·cases hv:v.ownBlock with
  | none=>exact .inl rfl
  | some g=>exact .inr (fun e=>hne g hv e.symm)
 ·have hs:=h.2 g e
  have hb:=hg.block g hs.1 (fun e2=>hne g e e2.symm)
  exact⟨Nat.lt_of_lt_of_le hs.1 hg.size,fun i u hu=>hs.2 i u ((World.cell?_of_block (a:=⟨g,i,none⟩) hb).symm.trans hu)⟩
theorem OwnG.but {l:List (Nat→Rat)} {N:Nat} {w w':World} {B:Nat} {v:Value} {R:Option Nat} (h:OwnG l N w B v) (hs:∀ r,R=some r→Stk SliceV w r) (hg:w.grownBy w' R) (h32:I32 w w') (hne:∀ g,v.ownBlock=some g→R≠some g):OwnG l N w' B v:=by
 obtain⟨xs,h1,h2⟩:=h
 exact⟨xs,h1.but hg hne,fun j x hx=>by obtain⟨vr,e,hr⟩:=h2 j x hx;exact⟨vr,e,hr.grown hs hg h32⟩⟩
def IntV (v:Value):Prop:=∃ n,v=.int .i64 n
theorem RowV.ints {f:Nat→Rat} {N:Nat} {w w':World} {v:Value} {o:Option Nat} (h:RowV f N w v) (hs:∀ R,o=some R→∀ i u,w.cell? ⟨R,i,none⟩=some u→∀ b,u≠.bool b) (hg:w.grownBy w' o) (h32:I32 w w'):RowV f N w' v:=by
 refine⟨h.1,?_⟩
 rcases h.2 with h1 |⟨b,o',cap,e,hb,hq⟩
 ·exact .inl h1
 ·refine .inr ⟨b,o',cap,e,Nat.lt_of_lt_of_le hb hg.size,fun j hj=>?_⟩
  obtain⟨s,p,n,c,t,q,m,d,h0,e1,e2,e3,h4⟩:=hq j hj
  have hne:some b≠o:=fun e1=>hs b e1.symm _ _ h0 _ rfl
  exact⟨s,p,n,c,t,q,m,d,hg.cell h0 hne,hg.cell e1 hne,hg.cell e2 hne,hg.cell e3 hne,h4.i32 h32⟩
theorem OwnG.shape {l:List (Nat→Rat)} {N:Nat} {w:World} {B:Nat} {v:Value} (h:OwnG l N w B v):∃ p c,v=.slice p l.length c∧∀ (j:Nat) x,l[j]?=some x→∃ g,p=some ⟨g,0,none⟩∧B≤g∧g<w.heap.size∧(Stk SliceV w g∧∀ i,w.frozen? ⟨g,i,none⟩=false)∧∃ vr,w.cell? ⟨g,j,none⟩=some vr∧RowV x N w vr:=by
 rcases h.row with⟨rfl,rfl⟩ |⟨g,cap,rfl,_,_,hB,hg,hr⟩
 ·exact⟨none,0,rfl,fun j x hx=>by simp at hx⟩
 ·exact⟨_,cap,rfl,fun j x hx=>⟨g,rfl,hB,hg,⟨hr.stk,hr.free⟩,hr.val j x hx⟩⟩
def OwnI (l:List Nat) (w:World) (B:Nat) (v:Value):Prop:=OwnK IntV w B 3 1 v l.length (l.map fun n:Nat=>Value.int .i64 (n:Int))
theorem OwnI.nil (w:World) (B:Nat):OwnI [] w B (.slice none 0 0):=OwnK.nil _ _ _ _ _
theorem OwnI.keep {l:List Nat} {w w':World} {B:Nat} {v:Value} (h:OwnI l w B v) (hb:Below w.heap.size w w'):OwnI l w' B v:=OwnK.keep h hb
theorem OwnI.ownN {l:List Nat} {w:World} {B:Nat} {v:Value} (h:OwnI l w B v):OwnN l w B v:=⟨h.1,fun g e=>(h.2 g e).imp fun _ ⟨_,e⟩=>by subst e;exact fun _ h=>by cases h⟩
theorem OwnI.push {l:List Nat} {w':World} {B:Nat} {v':Value} {a:Nat} (h:OwnK IntV w' B 3 1 v' (l.length+1) ((l.map fun n:Nat=>Value.int .i64 (n:Int))++[.int .i64 (a:Int)])):OwnI (l++[a]) w' B v':=by
 unfold OwnI
 rw[List.map_append,List.length_append]
 exact h
theorem OwnI.val {l:List Nat} {w:World} {B:Nat} {v:Value} (h:OwnI l w B v):∃ p c,v=.slice p l.length c:=own_slice h.1
theorem OwnI.ge {l:List Nat} {w:World} {B g:Nat} {v:Value} (h:OwnI l w B v) (e:v.ownBlock=some g):B≤g∧g<w.heap.size:=⟨own_ge h.1 e.symm,(h.2 g e).1⟩
theorem OwnG.ints {l:List (Nat→Rat)} {N:Nat} {w w':World} {B:Nat} {v:Value} {R:Option Nat} (h:OwnG l N w B v) (hs:∀ r,R=some r→Stk IntV w r) (hg:w.grownBy w' R) (h32:I32 w w') (hne:∀ g,v.ownBlock=some g→R≠some g):OwnG l N w' B v:=by
 obtain⟨xs,h1,h2⟩:=h
 exact⟨xs,h1.but hg hne,fun j x hx=>by
  obtain⟨vr,e,hr⟩:=h2 j x hx
  exact⟨vr,e,hr.ints (fun r hr i u hu b e2=>by obtain⟨n,e3⟩:=(hs r hr).2 i u hu;rw[e3]at e2;cases e2) hg h32⟩⟩
theorem one1 (p:Option Addr) (n c:Nat):∀ u∈[Value.slice p n c],u.oneCell'=true:=by
 intro u hu
 simp at hu
 rw[hu];rfl
theorem sv1 (p:Option Addr) (n c:Nat):∀ u∈[Value.slice p n c],SliceV u:=by
 intro u hu
 simp at hu
 exact⟨p,n,c,hu⟩
theorem iv1 (n:Int):∀ u∈[Value.int .i64 n],IntV u:=by
 intro u hu
 simp at hu
 exact⟨n,hu⟩
theorem ione1 (n:Int):∀ u∈[Value.int .i64 n],u.oneCell'=true:=by
 intro u hu
 simp at hu
 rw[hu];rfl
theorem ivz:∀ u∈(Value.int .i64 0).cells.toList,IntV u:=by
 intro u hu
 simp[Value.cells]at hu
 exact⟨0,hu⟩
theorem not_sv32 (n:Int):¬ SliceV (.int .u32 n):=fun⟨_,_,_,e⟩=>by cases e
theorem not_iv32 (n:Int):¬ IntV (.int .u32 n):=fun⟨_,e⟩=>by cases e
theorem RowV.open_ {f:Nat→Rat} {N:Nat} {w:World} {v:Value} (h:RowV f N w v) (h0:0<N):∃ g o cap,v=.slice (some ⟨g,o,none⟩) N cap∧g<w.heap.size∧∀ j,j<N→QE (IsQ (f j)) w g (o+j*4):=h.2.resolve_left (fun h=>by omega)
def RedRet (n m:Nat) (rows:Nat→Nat→Int) (B:Nat) (w':World) (e:Ending):Prop:=∃ vo vp ld L R O A c,e=.returned (.tuple #[vo,vp])∧GjAt n 16777216 rows m c ld L R O A∧(c=n∨∀ a,¬ A a)∧OwnG ((pvs ld n).map O) n w' B vo∧OwnN (pvs ld n) w' B vp
theorem c_Reduce09 (n m:Nat) (rows:Nat→Nat→Int) (v:Value) (Bv:Nat) (w:World) (h0n:0<n) (hn:n≤72) (hm0:0<m) (hm:m≤1000) (hb:∀ i q,(rows i q).natAbs≤16777216) (h0:∀ i q,n≤q→rows i q=0) (hv:OwnG (rowsL rows m) n w Bv v):
  Calls Tryz.prog 110 #[.int .i64 n,v] w fun e w'=>RedRet n m rows w.heap.size w' e∧Below w.heap.size w w':=by
 have hrow:=hv.row
 obtain⟨xs,hK,hX⟩:=hv
 obtain⟨g,cap,rfl,_,_,_,hg,_⟩:=hrow.resolve_left (fun h=>by have h1:=rowsL_length rows m;rw[h.1]at h1;simp at h1;omega)
 rw[rowsL_length]at hK ⊢
 have HAL:=Kh (OwnG.all (N:=n) (l:=rowsL rows m) (by rw[rowsL_length];exact hK) hX)
 have HXL:=Kh (show xs.length=m*1 from hK.1.1)
 have HK0:=Kh hK
 have HX0:=Kh hX
 have HB:=Kh hb
 have H0:=Kh h0
 have HTOP:=Kh (top_72 (n:=n) (B:=16777216) hn (Nat.le_refl _))
 obtain⟨B0,hB0⟩:∃ B,w.heap.size=B:=⟨_,rfl⟩
 have HB0:=Kh hB0
 clear hK hX hrow hb h0 hB0
 go_enter Tryz.func110,Tryz.ntmps110
 go_wp2_with (at_builtin;refine wpl_appN SliceV rfl (.tmp 15) (.tmp 16) _ 24 rfl Tryz.underlying110 rowQInfo rfl (by decide) B0 0 m g cap (.slice none 0 0) [] xs rfl (OwnK.nil _ _ _ _ _) rfl HXL.out (fun j u hu=>own_read HK0.out.1 hu) (fun u hu=>(HAL.out u hu).one) (by omega) (by omega) hm0 (Nat.le_of_eq HB0.out.symm) HAL.out sliceZ ?_;intro va w1 hown hgr hat;have HGA:=Kh hgr;have HOA:=Kh hown;clear hown hgr hat)
 have HI1:=Kh (show I32 w w1 from I32.grown (K:=SliceV) (fun _ hx=>by obtain⟨p,n,c,e⟩:=hx;cases e) (v:=.slice none 0 0) (fun g h=>by cases h) HGA.out)
 have HA1:=Kh (show OwnG (rowsL rows m) n w1 B0 va from⟨xs,by
  have h1:=HOA.out
  rw[Nat.zero_add,List.nil_append]at h1
  rw[rowsL_length]
  exact h1,fun j x hx=>by
  obtain⟨vr,e,hr⟩:=HX0.out j x hx
  exact⟨vr,e,hr.grown (fun R h=>by cases h) HGA.out HI1.out⟩⟩)
 have HB1:=Kh (show Below B0 w w1 from(Below.refl _ _).grown HGA.out (Nat.le_of_eq HB0.out.symm) (fun k hk=>by cases hk))
 clear HOA HGA HI1 HK0 HX0 HAL HXL
 go_wp2_with fail
 go_loopw [6,7,8,9] (fun va vo vp vc wr=>∃ (c:Nat) (ld:Nat→Bool) (L:Nat→Nat→Rat) (R:Nat→Nat→Int) (O:Nat→Nat→Rat) (la:List (Nat→Rat)),vc=.int .i64 c∧la.length≤m∧GjAt n 16777216 rows m c ld L R O (inL la)∧OwnG la n wr B0 va∧OwnG ((pvs ld c).map O) n wr B0 vo∧OwnI (pvs ld c) wr B0 vp∧Below B0 w wr∧(∀ g,vo.ownBlock=some g→vp.ownBlock≠some g)) (fun _ _ _ vc _=>n - (intOf vc).toNat)
 case atStart=>exact⟨0,_,_,_,_,_,rfl,Nat.le_of_eq (rowsL_length rows m),gj_start (by omega),HA1.out,OwnG.nil _ _ _,OwnI.nil _ _,HB1.out,fun g h=>by cases h⟩
 case round=>
  obtain⟨c,ld,L,R,O,la,rfl,hla,hgj,hoa,hoo,hop,hbw,hdis⟩:=hrel
  obtain⟨we,rfl⟩:∃ we:World,we=wr:=⟨_,rfl⟩
  have HGJ:=Kh hgj
  have HOA:=Kh hoa
  have HOO:=Kh hoo
  have HOP:=Kh hop
  have HBW:=Kh hbw
  have HDIS:=Kh hdis
  have hcn:c≤n:=hgj.le
  have HPL:=Kh (pvs_length ld c)
  have hsz:B0≤we.heap.size:=HB0.out▸hbw.size
  have HSZ:=Kh hsz
  obtain⟨pa,ca,eva,hshape⟩:=hoa.shape
  have HSH:=Kh hshape
  subst eva
  obtain⟨lo,hlo⟩:∃ lo,(pvs ld c).map O=lo:=⟨_,rfl⟩
  rw[hlo]at HOO hoo
  have HLO:=Kh hlo
  obtain⟨po,co,evo⟩:=hoo.val
  subst evo
  obtain⟨pp,cp,evp⟩:=hop.val
  subst evp
  have HLOL:=Kh (show lo.length≤c from by rw[← hlo,List.length_map];exact HPL.out)
  clear hgj hoa hoo hop hbw hdis hshape hlo hsz HA1 HB1
  by_cases hc:c<n
  ·have hci:(c:Int)<(n:Int):=by omega
   by_cases hl0:la.length=0
   ·have hl0i:¬ ((0:Int)<(la.length:Int)):=by omega
    have hdl:decide ((0:Int)<(la.length:Int))=false:=decide_eq_false hl0i
    have HE:=Kh (show ∀ a,¬ inL la a from fun a ⟨x,hx,_⟩=>by rw[List.eq_nil_of_length_eq_zero hl0]at hx;cases hx)
    have HPS:=Kh (pvs_stop (Nat.le_of_lt hc) HGJ.out.lt)
    go_wp2
    (first|go_ret2|go_ret)
    exact⟨⟨_,_,ld,L,R,O,_,c,rfl,HGJ.out,.inr HE.out,by rw[HPS.out,HLO.out,HB0.out];exact HOO.out,by rw[HPS.out,HB0.out];exact HOP.out.ownN⟩,by rw[HB0.out];exact HBW.out⟩
   ·have hl0i:(0:Int)<(la.length:Int):=by omega
    have hl0n:0<la.length:=by omega
    clear hl0
    go_wp2_with fail
    go_loopw [10] (fun vt wr=>∃ t:Nat,t≤la.length∧vt=.int .i64 t∧(∀ i x,i<t→la[i]?=some x→x c=0)∧Below we.heap.size we wr) (fun vt _=>la.length - (intOf vt).toNat)
    case atStart=>exact⟨0,Nat.zero_le _,rfl,fun i x hi=>absurd hi (Nat.not_lt_zero _),Below.refl _ _⟩
    case round=>
     obtain⟨t,ht,rfl,hz,hbt⟩:=hrel
     obtain⟨wt,rfl⟩:∃ wt:World,wt=wr:=⟨_,rfl⟩
     have HZ:=Kh hz
     have HBT:=Kh hbt
     clear hz hbt
     by_cases hlt:t<la.length
     ·have hti:(t:Int)<(la.length:Int):=by omega
      obtain⟨x,hx⟩:∃ x,la[t]?=some x:=⟨_,List.getElem?_eq_getElem hlt⟩
      obtain⟨ga,hpa,hga,hga2,_,vr,hvr,hrv⟩:=HSH.out t x hx
      obtain⟨gr,go,cr,rfl,hgr,hqe⟩:=hrv.open_ h0n
      have hrvt:=hrv.keep HBT.out
      obtain⟨s1,p1,n1,c1,t1,q1,m1,d1,a0,a1,a2,a3,hqx⟩:=(hqe c hc).keep (IsQ.solid _) HBT.out
      have HQX:=Kh (show Qs wt s1 p1 n1 c1 t1 q1 m1 d1 (x c)from hqx)
      have HVT:=Kh hrvt
      have HX:=Kh hx
      have HXS:=Kh (show ∀ q,hq (x q)≤80 from fun q=>Nat.le_trans (HGJ.out.rest_size HB.out ⟨x,List.mem_of_getElem? hx,fun _=>rfl⟩ q) HTOP.out)
      have hcell:=cell_next HBT.out hvr
      subst hpa
      clear hvr hrv hqe hqx hrvt hx
      go_wp2_with fail
      refine(c_sSignQ s1 p1 n1 c1 t1 q1 m1 d1 (x c) wt HQX.out (by have:=HXS.out c;omega)).mono ?_
      rintro e w3 ⟨⟨sg,rfl,hsg⟩,hb3⟩
      have HB3:=bt HBT hb3
      have HQ3:=Kh (HQX.out.keep hb3)
      have HV3:=Kh (HVT.out.keep hb3)
      by_cases hs0:sg=0
      ·have hsb:(sg==0)=true:=by rw[hs0];rfl
       have HZ2:=Kh (show ∀ i y,i<t+1→la[i]?=some y→y c=0 from fun i y hi hy=>by
        rcases Nat.eq_or_lt_of_le (Nat.lt_succ_iff.1 hi)with rfl|h3
        ·rw[HX.out]at hy
         injection hy with hy
         rw[← hy]
         exact hsg.1 hs0
        ·exact HZ.out i y h3 hy)
       clear hs0 hsg hb3 a0 a1 a2 a3 hcell
       go_wp2
       go_roundw
       case rel=>exact⟨t+1,by omega,by go_num,HZ2.out,HB3.out⟩
       case measure=>simp[intOf];omega
      ·have hsb:(sg==0)=false:=beq_eq_false_iff_ne.2 hs0
       have hxc:x c≠0:=fun e=>hs0 (hsg.2 e)
       have htl:((t:Int)==(la.length:Int))=false:=beq_eq_false_iff_ne.2 (by omega)
       obtain⟨pv,hpv⟩:∃ pv:Nat→Rat,(fun q=>1 / x c*x q)=pv:=⟨_,rfl⟩
       have HPV:=Kh (show ∀ q,pv q=1 / x c*x q from fun q=>by rw[← hpv])
       obtain⟨ld',L',R',O',hgj',hmap,hpvs⟩:=gj_pivot HGJ.out HB.out hc HX.out hxc
       rw[hpv]at hgj' hmap
       have HGJ':=Kh hgj'
       have HMAP:=Kh hmap
       have HPVS:=Kh hpvs
       have HPVB:=Kh (show ∀ q,hq (pv q)≤80 from fun q=>by rw[HPV.out];exact Nat.le_trans (HGJ.out.pivot_size HB.out ⟨x,List.mem_of_getElem? HX.out,fun _=>rfl⟩ hxc q) HTOP.out)
       have hcell:=cell_next hb3 hcell
       have a0:=cell_next hb3 a0
       have a1:=cell_next hb3 a1
       have a2:=cell_next hb3 a2
       have a3:=cell_next hb3 a3
       have HS1:=Kh (show ∀ W,Below w3.heap.size w3 W→(W.cell? ⟨ga,t,none⟩=some (.slice (some ⟨gr,go,none⟩) n cr)∧W.cell? ⟨gr,go+c*4,none⟩=some (.bool s1)∧W.cell? ⟨gr,go+c*4+1,none⟩=some (.slice p1 n1 c1)∧W.cell? ⟨gr,go+c*4+2,none⟩=some (.bool t1)∧W.cell? ⟨gr,go+c*4+3,none⟩=some (.slice q1 m1 d1))from fun W hb=>⟨cell_next hb hcell,cell_next hb a0,cell_next hb a1,cell_next hb a2,cell_next hb a3⟩)
       have hS0:=HS1.out _ (Below.refl _ w3).drew
       have HK1:=Kh (show ∀ wb,Below w3.drew.heap.size w3.drew wb→Below w3.heap.size w3 wb from fun wb hb=>(Below.refl _ w3).drew.trans hb)
       have HK2:=Kh (show ∀ wa wb,Below w3.heap.size w3 wa→Below wa.heap.size wa wb→Below w3.heap.size w3 wb from fun wa wb h1 h2=>h1.trans (h2.mono h1.size))
       have HZE:=Kh (fun W=>c_Zeros09 n W (by omega))
       have HOF:=Kh (fun W=>c_sOf 1 W (by omega) (by omega))
       have HRA:=Kh (fun W s p n' c' t q m d (hb:Below w3.heap.size w3 W) (hq7:Qs W s p n' c' t q m d ((1:Int):Rat))=>c_sRatio s p n' c' t q m d ((1:Int):Rat) s1 p1 n1 c1 t1 q1 m1 d1 (x c) W hq7 (HQ3.out.keep hb) hxc (by have:hq ((1:Int):Rat)≤1:=(by decide +kernel);omega) (by have:=HXS.out c;omega))
       have HCO:=Kh (fun W vz s p n' c' t q m d (hb:Below w3.heap.size w3 W) (hz:QL (fun _=>IsQ 0) W vz n) (hq7:Qs W s p n' c' t q m d (((1:Int):Rat) / x c))=>c_Combine vz (.slice (some ⟨gr,go,none⟩) n cr) n (fun _=>0) x s p n' c' t q m d (((1:Int):Rat) / x c) W hz (HV3.out.keep hb).2 hq7 h0n (by omega) (by
        have h1:((1:Int):Rat) / x c=1 / x c:=rfl
        rw[h1]
        have h2:=hq_inv hxc
        have h3:=HXS.out c
        omega) (fun j=>by rw[hq_zero];omega) (fun j=>by have:=HXS.out j;omega))
       clear hs0 hsg hb3 hgj' hmap hpvs hpv a0 a1 a2 a3 hcell
       have M1:True:=trivial
       go_upto_region 12 with(fail)
       go_region_held3 (fun W=>W.cell? ⟨ga,t,none⟩=some (.slice (some ⟨gr,go,none⟩) n cr)∧W.cell? ⟨gr,go+c*4,none⟩=some (.bool s1)∧W.cell? ⟨gr,go+c*4+1,none⟩=some (.slice p1 n1 c1)∧W.cell? ⟨gr,go+c*4+2,none⟩=some (.bool t1)∧W.cell? ⟨gr,go+c*4+3,none⟩=some (.slice q1 m1 d1))
        (first|with_reducible exact hS0|with_reducible exact HS1.out _ HBA.out |(exfalso;assumption))
        (first
         |(go_at_call 173;(with_reducible refine(HZE.out _).mono ?_);rintro e w4 ⟨⟨vz,rfl,hoz⟩,hb4⟩;have HZL:=Kh hoz.ql;(first|have HON:=Kh (HON.out.keep hb4)|skip);(first|have HRQ:=Kh (HRQ.out.keep hb4)|skip);have HBA:=Kh (show Below w3.heap.size w3 w4 from by first|exact HK2.out _ _ HBA.out hb4|exact HK1.out _ hb4);clear hoz hb4)
         |(go_at_call 159;(with_reducible refine(HOF.out _).mono ?_);rintro e w5 ⟨⟨s5,p5,n5,c5,t5,q5,m5,d5,rfl,hq5⟩,hb5⟩;have HON:=Kh hq5;(first|have HZL:=Kh (HZL.out.keep (fun _=>IsQ.solid _) hb5)|skip);have HBA:=Kh (show Below w3.heap.size w3 w5 from by first|exact HK2.out _ _ HBA.out hb5|exact HK1.out _ hb5);clear hq5 hb5)
         |(go_at_call 174;(with_reducible refine(HRA.out _ _ _ _ _ _ _ _ _ HBA.out HON.out).mono ?_);rintro e w6 ⟨⟨s6,p6,n6,c6,t6,q6,m6,d6,rfl,hq6⟩,hb6⟩;have HRQ:=Kh hq6;(first|have HZL:=Kh (HZL.out.keep (fun _=>IsQ.solid _) hb6)|skip);have HBA:=Kh (HK2.out _ _ HBA.out hb6);clear hq6 hb6)
         |(go_at_call 172;(with_reducible refine(HCO.out _ _ _ _ _ _ _ _ _ _ HBA.out HZL.out HRQ.out).mono ?_);rintro e w7 ⟨⟨vpv,rfl,hpo⟩,hb7⟩;have HPO:=Kh hpo;have HBA:=Kh (HK2.out _ _ HBA.out hb7);clear hpo hb7))
       obtain⟨ppv,cpv,rfl⟩:=ql_value HPO.out.ql
       have HPR:=Kh (show RowV pv n w7 (.slice ppv n cpv)from(show RowV (fun j=>0+((1:Int):Rat) / x c*x j) n w7 (.slice ppv n cpv)from⟨⟨_,_,rfl⟩,HPO.out.ql⟩).congr (fun q _=>by
        rw[HPV.out]
        have h1:((1:Int):Rat)=1:=rfl
        rw[h1]
        grind))
       have HB7:=Kh (HB3.out.trans (HBA.out.mono HB3.out.size))
       have HOO7:=Kh (HOO.out.keep HB7.out)
       have HOP7:=Kh (HOP.out.keep HB7.out)
       have HBW7:=Kh (HBW.out.trans (HB7.out.mono HSZ.out))
       have HLA:=Kh (show ∀ i y,la[i]?=some y→∀ q,hq (y q)≤80 from fun i y hy q=>Nat.le_trans (HGJ.out.rest_size HB.out ⟨y,List.mem_of_getElem? hy,fun _=>rfl⟩ q) HTOP.out)
       obtain⟨B7,hB7⟩:∃ B,w7.heap.size=B:=⟨_,rfl⟩
       have HE7:=Kh hB7
       have HB07:=Kh (show B0≤B7 from by have h1:=HSZ.out;have h2:=HB7.out.size;omega)
       have HN7:=Kh (OwnG.nil n w7 B7)
       clear HPO HBA HS1 HK1 HK2 HZE HOF HRA HCO HV3 HQ3 HQX HVT HB3 HBT HZ hB7
       go_wp2_with fail
       go_loopw [12,13] (fun v ii wr=>∃ i:Nat,i≤la.length∧ii=.int .i64 i∧OwnG (rst la pv c t i) n wr B7 v∧Below B7 w7 wr) (fun _ ii _=>la.length - (intOf ii).toNat)
       case atStart=>exact⟨0,Nat.zero_le _,rfl,HN7.out,Below.refl _ _⟩
       case round=>
        obtain⟨i,hi,rfl,hrs,hbi⟩:=hrel
        obtain⟨wi,rfl⟩:∃ wi:World,wi=wr:=⟨_,rfl⟩
        have HRS:=Kh hrs
        have HBI:=Kh hbi
        have HB7I:=Kh (show Below w7.heap.size w7 wi from by rw[HE7.out];exact hbi)
        have hB7i:B7≤wi.heap.size:=by have:=HB7I.out.size;have:=HE7.out;omega
        clear hrs hbi HN7
        by_cases hil:i<la.length
        ·have hii:(i:Int)<(la.length:Int):=by omega
         by_cases hit:i=t
         ·have hne:((i:Int) !=(t:Int))=false:=by rw[bne_eq_false_iff_eq];omega
          have HST:=Kh (show rst la pv c t (i+1)=rst la pv c t i by rw[rst,if_pos hit])
          clear hit
          go_wp2
          go_roundw
          case rel=>exact⟨i+1,by omega,by go_num,by rw[HST.out];exact HRS.out,HBI.out⟩
          case measure=>simp[intOf];omega
         ·have hne:((i:Int) !=(t:Int))=true:=by rw[bne_iff_ne];omega
          obtain⟨y,hy⟩:∃ y,la[i]?=some y:=⟨_,List.getElem?_eq_getElem hil⟩
          have HST:=Kh (show rst la pv c t (i+1)=rst la pv c t i++[clr pv c y]by rw[rst,if_neg hit,List.getD_eq_getElem?_getD,hy];rfl)
          have HYS:=Kh (HLA.out i y hy)
          have HLR:=Kh (show(rst la pv c t i).length≤1000 from Nat.le_trans (rst_length la pv c t i) (by omega))
          obtain⟨ga',hpa',_,hga2',_,vr',hvr',hrv'⟩:=HSH.out i y hy
          have hbei:=HB7.out.trans (HB7I.out.mono HB7.out.size)
          have hcell':=cell_next hbei hvr'
          have hr':=hrv'.keep hbei
          injection hpa' with hpa'
          injection hpa' with hpa' _ _
          subst hpa'
          obtain⟨⟨p',c',rfl⟩,_⟩:=hrv'
          have HRI:=Kh hr'
          clear hit hy hvr' hr' hbei
          go_wp2_with fail
          refine(c_cleared _ (.slice ppv n cpv) n c y pv wi HRI.out (HPR.out.keep HB7I.out) hc (by omega) (fun j=>by have:=HYS.out j;omega) (fun j=>by have:=HPVB.out j;omega)).mono ?_
          rintro e w8 ⟨⟨v8,rfl,hr8⟩,hb8⟩
          obtain⟨⟨p8,c8,rfl⟩,hq8⟩:=hr8
          obtain⟨xs,hK,hXX⟩:=HRS.out.keep hb8
          have HK:=Kh hK
          have HXX:=Kh hXX
          have HR8:=Kh (show RowV (clr pv c y) n w8 (.slice p8 n c8)from⟨⟨_,_,rfl⟩,hq8⟩)
          have HB8:=Kh (HBI.out.trans (hb8.mono hB7i))
          have hB8:B7≤w8.heap.size:=Nat.le_trans hB7i hb8.size
          have hlr:=HLR.out
          clear hK hXX hq8 hb8 hcell'
          go_wp2_with (at_builtin;refine wpl_app2 SliceV rfl (.tmp 74) (.tmp 82) _ 24 rfl Tryz.underlying110 rowQInfo rfl (by decide) B7 (rst la pv c t i).length u12 xs [.slice p8 n c8] rfl HK.out rfl rfl (one1 _ _ _) (by omega) (by omega) hB8 (sv1 _ _ _) sliceZ ?_;intro v' w' hown' hgr hat;have HO2:=Kh (OwnG.push HK.out HXX.out HR8.out hown' hgr);have HB2:=Kh (own_below HB8.out HK.out.1 hgr (Nat.le_refl _) hB8);clear hown' hgr hat)
          go_roundw
          case rel=>exact⟨i+1,by omega,by go_num,by rw[HST.out];exact HO2.out,HB2.out⟩
          case measure=>simp[intOf];omega
        ·obtain rfl:i=la.length:=by omega
         obtain⟨pr,cr',evr⟩:=HRS.out.val
         subst evr
         have HLRS:=Kh (show(rst la pv c t la.length).length≤m from Nat.le_trans (rst_length la pv c t la.length) hla)
         have HOOI:=Kh (show OwnG (mixR lo pv c 0) n wi B0 (.slice po lo.length co)from by rw[mixR_zero];have h:=HOO7.out.keep HB7I.out;exact h)
         have HOPI:=Kh (HOP7.out.keep HB7I.out)
         have HPRI:=Kh (HPR.out.keep HB7I.out)
         have HBWI:=Kh (HBW7.out.trans (HB7I.out.mono (by have:=HE7.out;have:=HB07.out;omega)))
         have HOGE:=Kh (show ∀ g,(Value.slice po lo.length co).ownBlock=some g→B0≤g∧g<B7 from fun g e=>by have h:=HOO7.out.ge e;rw[HE7.out]at h;exact h)
         have HOSZ:=Kh (show ∀ x,x∈lo→∀ q,hq (x q)≤80 from fun x hx q=>by
          rw[← HLO.out]at hx
          obtain⟨p,hp,rfl⟩:=List.mem_map.1 hx
          exact Nat.le_trans (HGJ.out.out_size (by omega) H0.out (pvs_mem.1 hp).2 q) HTOP.out)
         have HPGB:=Kh (show ∀ g,(Value.slice pp (pvs ld c).length cp).ownBlock=some g→g<B7 from fun g e=>by have h:=(HOP7.out.ge e).2;rw[HE7.out]at h;exact h)
         clear HOO7 HOP7 HBW7 HPR HB7I
         go_wp2_with fail
         go_loopw [14] (fun ii wr=>∃ i:Nat,i≤lo.length∧ii=.int .i64 i∧OwnG (mixR lo pv c i) n wr B0 (.slice po lo.length co)∧wi.grownBy wr (Value.slice po lo.length co).ownBlock∧I32 wi wr) (fun ii _=>lo.length - (intOf ii).toNat)
         case atStart=>exact⟨0,Nat.zero_le _,rfl,HOOI.out,⟨rfl,rfl,rfl,Nat.le_refl _,fun _ _ _=>rfl⟩,I32.refl _⟩
         case round=>
          obtain⟨k,hk,rfl,hmx,hgk,h32⟩:=hrel
          obtain⟨wk,rfl⟩:∃ wk:World,wk=wr:=⟨_,rfl⟩
          have HMX:=Kh hmx
          have HGK:=Kh hgk
          have H32:=Kh h32
          have HSTK:=Kh (show ∀ r,(Value.slice po lo.length co).ownBlock=some r→Stk SliceV wi r from fun r hr=>by obtain⟨xs,h1,_⟩:=HOOI.out;exact h1.2 r hr)
          have HPRK:=Kh (HPRI.out.grown HSTK.out hgk h32)
          clear hgk h32
          by_cases hkl:k<lo.length
          ·have hki:(k:Int)<(lo.length:Int):=by omega
           obtain⟨z,hz⟩:∃ z,lo[k]?=some z:=⟨_,List.getElem?_eq_getElem hkl⟩
           obtain⟨po',co',evo,hsh⟩:=hmx.shape
           obtain⟨gq,hpq,_,hgq2,⟨_,hfz⟩,vz,hvz,hrz⟩:=hsh k z (mixR_at hz)
           injection evo with evo1 evo2 evo3
           subst evo1
           subst evo3
           clear evo2
           subst hpq
           have HFZ:=Kh (hfz k)
           have HRZ:=Kh hrz
           obtain⟨⟨pz,cz,rfl⟩,_⟩:=hrz
           have HZS:=Kh (HOSZ.out z (List.mem_of_getElem? hz))
           have HSET:=Kh (mixR_set (pv:=pv) (c:=c) hz)
           clear hmx hsh hfz hz
           go_wp2_with fail
           refine(c_cleared _ (.slice ppv n cpv) n c z pv wk HRZ.out HPRK.out hc (by omega) (fun j=>by have:=HZS.out j;omega) (fun j=>by have:=HPVB.out j;omega)).mono ?_
           rintro e w8 ⟨⟨v8,rfl,hr8⟩,hb8⟩
           obtain⟨⟨p8,c8,rfl⟩,hq8⟩:=hr8
           have hvz8:=cell_next hb8 hvz
           have hf8:=frozen_keep hb8 (by rw[hvz];rfl) HFZ.out
           have hmx8:=HMX.out.keep hb8
           have HS8:=Kh (show OwnG (mixR lo pv c (k+1)) n (w8.setCell ⟨gq,k,none⟩ (.slice p8 n c8)) B0 (.slice (some ⟨gq,0,none⟩) lo.length co)from by
            have h:=OwnG.set (l:=mixR lo pv c k) (N:=n) (w:=w8) (B:=B0) (i:=k) (f:=clr pv c z) (g:=gq) (cap:=co) (p:=p8) (c:=c8) (by rw[mixR_length];exact hmx8) (by rw[mixR_length];exact hkl) ⟨⟨_,_,rfl⟩,hq8⟩
            rw[HSET.out,mixR_length]at h
            exact h)
           have hstk8:Stk SliceV w8 gq:=by obtain⟨xs,h1,_⟩:=hmx8;exact h1.2 gq rfl
           have HG8:=Kh (show wi.grownBy (w8.setCell ⟨gq,k,none⟩ (.slice p8 n c8)) (some gq)from((show wi.grownBy wk (some gq)from HGK.out).trans (but_below gq hb8)).trans (but_put w8 gq k _))
           have HI8:=Kh ((H32.out.trans (I32.below hb8)).trans (I32.putU (hstk8.imp fun _=>SliceV.notU32) k (.slice p8 n c8)))
           have hlo72:lo.length≤72:=by have:=HLOL.out;omega
           clear hq8 hb8 hmx8 hvz hstk8
           go_wp2
           go_roundw
           case rel=>exact⟨k+1,by omega,by go_num,HS8.out,HG8.out,HI8.out⟩
           case measure=>simp[intOf];omega
          ·obtain rfl:k=lo.length:=by omega
           rw[mixR_all]at hmx
           obtain⟨xs,hKO,hXO⟩:=hmx
           rw[List.length_map]at hKO
           have HKO:=Kh hKO
           have HXO:=Kh hXO
           have HRSK:=Kh (HRS.out.but HSTK.out HGK.out H32.out (fun g e1 e2=>by
            have h1:=(HRS.out.ge e1).1
            have h2:=(HOGE.out g e2).2
            omega))
           have HOPK:=Kh (show OwnI (pvs ld c) wk B0 (.slice pp (pvs ld c).length cp)from OwnK.but HOPI.out HGK.out (fun g e1 e2=>HDIS.out g e2 e1))
           have hszi:=HBWI.out.size
           have HBWK:=Kh (show Below B0 w wk from HBWI.out.grown HGK.out (by have h1:=HB0.out;have h2:=HBWI.out.size;omega) (fun g e=>(HOGE.out g e).1))
           have hsk:B0≤wk.heap.size:=by have h1:=HGK.out.size;have h2:=HB07.out;omega
           have hlo72:lo.length≤72:=by have:=HLOL.out;omega
           have hpv72:(pvs ld c).length≤72:=by have:=HPL.out;omega
           have HPG:=Kh (show ∀ g,(Value.slice pp (pvs ld c).length cp).ownBlock=some g→g<wk.heap.size from fun g e=>(HOPK.out.2 g e).1)
           clear hKO hXO
           go_wp2_with (first
            |(at_builtin;refine wpl_app2 SliceV rfl (.tmp 101) (.tmp 103) _ 24 rfl Tryz.underlying110 rowQInfo rfl (by decide) B0 lo.length (.slice po lo.length co) xs [.slice ppv n cpv] rfl HKO.out rfl rfl (one1 _ _ _) (by omega) (by omega) hsk (sv1 _ _ _) sliceZ ?_;intro v' w' hown' hgr hat;have hIo:I32 wk w':=I32.grown (K:=SliceV) not_sv32 HKO.out.2 hgr;have HOO2:=Kh (show OwnG (lo.map (clr pv c)++[pv]) n w' B0 v' from OwnG.push (l:=lo.map (clr pv c)) (by rw[List.length_map];exact HKO.out) HXO.out HPRK.out (by rw[List.length_map];exact hown') hgr);have HRS2:=Kh (HRSK.out.but (fun r hr=>HKO.out.2 r hr) hgr hIo (fun g e1 e2=>by have h1:=(HRSK.out.ge e1).1;have h2:=(HOGE.out g e2).2;omega));have HOP2:=Kh (show OwnI (pvs ld c) w' B0 (.slice pp (pvs ld c).length cp)from OwnK.but HOPK.out hgr (fun g e1 e2=>HDIS.out g e2 e1));have HBW2:=Kh (own_below HBWK.out HKO.out.1 hgr (by have:=HB0.out;omega) (by have:=HB0.out;omega));have HD2:=Kh (show ∀ g,v'.ownBlock=some g→(Value.slice pp (pvs ld c).length cp).ownBlock≠some g from fun g e1 e2=>by rcases hat with h|h;(exact HDIS.out g (h▸e1) e2);(have h3:=HPG.out g e2;rw[h]at e1;injection e1 with e1;omega));have hs2:B0≤w'.heap.size:=Nat.le_trans hsk hgr.size;have HVG:=Kh (show ∀ g,v'.ownBlock=some g→g<w'.heap.size from fun g e=>(HOO2.out.ge e).2);clear hown' hgr hat hIo)
            |(at_builtin;refine wpl_app2 IntV rfl (.tmp 105) (.tmp 107) _ 3 rfl Tryz.underlying49 intInfo rfl (by decide) B0 (pvs ld c).length (.slice pp (pvs ld c).length cp) ((pvs ld c).map fun n:Nat=>Value.int .i64 (n:Int)) [.int .i64 (c:Int)] rfl HOP2.out rfl rfl (ione1 _) (by omega) (by omega) hs2 (iv1 _) ivz ?_;intro v3' w3' hown3 hgr3 hat3;have hI3:=(I32.grown (K:=IntV) not_iv32 HOP2.out.2 hgr3);have HOP3:=Kh (show OwnI (pvs ld c++[c]) w3' B0 v3' from OwnI.push hown3);have HOO3:=Kh (HOO2.out.ints (fun r hr=>HOP2.out.2 r hr) hgr3 hI3 (fun g e1 e2=>HD2.out g e1 e2));have HRS3:=Kh (HRS2.out.ints (fun r hr=>HOP2.out.2 r hr) hgr3 hI3 (fun g e1 e2=>by have h1:=(HRS2.out.ge e1).1;have h2:=HPGB.out g e2;omega));have HBW3:=Kh (own_below HBW2.out HOP2.out.1 hgr3 (by have:=HB0.out;omega) (by have:=HB0.out;omega));have HD3:=Kh (show ∀ g,v'.ownBlock=some g→v3'.ownBlock≠some g from fun g e1 e2=>by rcases hat3 with h|h;(exact HD2.out g e1 (h▸e2));(have h3:=HVG.out g e1;rw[h]at e2;injection e2 with e2;omega));clear hown3 hgr3 hat3 hI3))
           go_roundw
           case rel=>exact⟨c+1,ld',L',R',O',rst la pv c t la.length,by go_num,HLRS.out,HGJ'.out,HRS3.out.base HB07.out,by rw[HMAP.out,HLO.out];exact HOO3.out,by rw[HPVS.out];exact HOP3.out,HBW3.out,HD3.out⟩
           case measure=>simp[intOf];omega
     ·obtain rfl:t=la.length:=by omega
      have hti:¬ ((la.length:Int)<(la.length:Int)):=by omega
      have htl:((la.length:Int)==(la.length:Int))=true:=by simp
      have HGS:=Kh (HGJ.out.skip hc (fun a ⟨x,hx,e⟩=>by
       obtain⟨j,hj,e2⟩:=List.getElem_of_mem hx
       rw[e]
       exact HZ.out j x hj (by rw[List.getElem?_eq_getElem hj,e2])))
      have HPS:=Kh (show pvs ld (c+1)=pvs ld c by rw[pvs_succ,if_neg (fun h=>by have:=HGJ.out.lt c h;omega)])
      go_wp2
      go_roundw
      case rel=>exact⟨c+1,ld,L,R,O,la,by go_num,hla,HGS.out,HOA.out.keep HBT.out,by rw[HPS.out,HLO.out];exact HOO.out.keep HBT.out,by rw[HPS.out];exact HOP.out.keep HBT.out,HBW.out.trans (HBT.out.mono HSZ.out),HDIS.out⟩
      case measure=>simp[intOf];omega
  ·obtain rfl:c=n:=by omega
   have hci:¬ ((c:Int)<(c:Int)):=by omega
   have hcd:decide ((c:Int)<(c:Int))=false:=decide_eq_false hci
   go_wp2
   (first|go_ret2|go_ret)
   exact⟨⟨_,_,ld,L,R,O,_,c,rfl,HGJ.out,.inl rfl,by rw[HLO.out,HB0.out];exact HOO.out,by rw[HB0.out];exact HOP.out.ownN⟩,by rw[HB0.out];exact HBW.out⟩
end Go.Proofs.YthikonjlgljikaaGreatDoor
