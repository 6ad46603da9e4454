/- The coordinates of the unit vectors over the columns that do not lead. No program in sight. -/
import Derived.Test.YtenlbhlllgppmaaGreatDoorK23
import Derived.Test.YtenlbhlllgppmaaGreatDoorK21
namespace Go.Proofs.YtenlbhlllgppmaaGreatDoor
namespace Eli
open Sie
theorem hq_neg (q:Rat):hq (-q)=hq q:=by rw[hq,hq,Rat.neg_num,Rat.neg_den,Int.natAbs_neg]
theorem hq_zero:hq 0=1:=by rw[hq];decide
theorem hq_one:hq 1=1:=by rw[hq];decide
def tlr (X:Nat→Nat→Rat):List (Nat×Rat)→Nat→Rat
 | [],_=>0
 | t :: r,f=>tlr X r f+-t.2*X t.1 f
def newRow (leads:Nat→List (Nat×Rat)) (X:Nat→Nat→Rat) (j f:Nat):Rat:=
 if leads j=[]then(if f=j then 1 else 0)else tlr X (leads j).tail.reverse f
def crd (leads:Nat→List (Nat×Rat)) (n:Nat):Nat→Nat→Nat→Rat
 | 0=>fun _ _=>0
 | k+1=>fun j=>if j=n - 1 - k then newRow leads (crd leads n k) j else crd leads n k j
theorem tlr_append (X:Nat→Nat→Rat) (a b:List (Nat×Rat)) (f:Nat):tlr X (a++b) f=tlr X a f+tlr X b f:=by
 induction a with
 | nil=>rw[List.nil_append,tlr];grind
 | cons x a ih=>rw[List.cons_append,tlr,tlr,ih];grind
theorem tlr_reverse (X:Nat→Nat→Rat) (a:List (Nat×Rat)) (f:Nat):tlr X a.reverse f=tlr X a f:=by
 induction a with
 | nil=>rfl
 | cons x a ih=>rw[List.reverse_cons,tlr_append,ih,tlr,tlr,tlr];grind
theorem tlr_congr {X Y:Nat→Nat→Rat} {a:List (Nat×Rat)} {f:Nat} (h:∀ x,x∈a→X x.1 f=Y x.1 f):tlr X a f=tlr Y a f:=by
 induction a with
 | nil=>rfl
 | cons x a ih=>rw[tlr,tlr,ih (fun y hy=>h y (List.mem_cons_of_mem _ hy)),h x (List.mem_cons_self ..)]
theorem crd_later (leads:Nat→List (Nat×Rat)) (n:Nat) {k m j:Nat} (hk:k≤m) (hm:m≤n) (hj:n - k≤j):crd leads n m j=crd leads n k j:=by
 induction m with
 | zero=>obtain rfl:k=0:=by omega
         rfl
 | succ m ih=>
  by_cases e:k=m+1
  ·rw[e]
  ·rw[crd]
   simp only
   rw[if_neg (by omega),ih (by omega) (by omega)]
theorem crd_rule {n B:Nat} {leads:Nat→List (Nat×Rat)} (h:Good n B leads) {k j:Nat} (hk:n - j≤k) (hkn:k≤n) (hj:j<n):crd leads n k j=newRow leads (crd leads n k) j:=by
 have h1:crd leads n k j=crd leads n (n - j) j:=crd_later leads n hk hkn (by omega)
 have h2:crd leads n (n - j) j=newRow leads (crd leads n (n - 1 - j)) j:=by
  have e:n - j=(n - 1 - j)+1:=by omega
  rw[e,crd]
  simp only
  rw[if_pos (by omega)]
 rw[h1,h2]
 funext f
 rw[newRow,newRow]
 split
 ·rfl
 ·rename_i hl
  refine tlr_congr fun x hx=>?_
  obtain⟨b,hb⟩:=(h.head j).resolve_left hl
  have ho:=h.ord j
  rw[hb]at ho hx
  rw[List.tail_cons,List.mem_reverse]at hx
  obtain⟨_,h3,h4,_⟩:=val_mem ho.2.2.2 x hx
  dsimp only at h3
  rw[crd_later leads n (k:=n - 1 - j) (m:=k) (by omega) hkn (by omega)]
theorem crd_free {n B:Nat} {leads:Nat→List (Nat×Rat)} (h:Good n B leads) {k j:Nat} (hk:n - j≤k) (hkn:k≤n) (hj:j<n) (hl:leads j=[]) (f:Nat):crd leads n k j f=if f=j then 1 else 0:=by
 rw[crd_rule h hk hkn hj,newRow,if_pos hl]
theorem crd_lead {n B:Nat} {leads:Nat→List (Nat×Rat)} (h:Good n B leads) {k j:Nat} (hk:n - j≤k) (hkn:k≤n) (hj:j<n) (hl:leads j≠[]) (f:Nat):crd leads n k j f=tlr (crd leads n k) (leads j).tail f:=by
 rw[crd_rule h hk hkn hj,newRow,if_neg hl,tlr_reverse]
def Said (n:Nat) (leads:Nat→List (Nat×Rat)) (X:Nat→Nat→Rat) (j:Nat):Prop:=
 ∃ u,Sp (ldOf leads) (rowOf leads) n u∧∀ q,(if q=j then(1:Rat)else 0)=sumQ (fun f=>(if ldOf leads f then 0 else X j f)*rowOf leads f q) n+u q
theorem said_row {n B:Nat} {leads:Nat→List (Nat×Rat)} (h:Good n B leads) (X:Nat→Nat→Rat):∀ (r:List (Nat×Rat)),(∀ x,x∈r→Said n leads X x.1) →
  ∃ u,Sp (ldOf leads) (rowOf leads) n u∧∀ q,val r q=sumQ (fun f=>(if ldOf leads f then 0 else -tlr X r f)*rowOf leads f q) n+u q
 | [],_=>⟨fun _=>0,Sp.nil _ _ _,fun q=>by
   rw[val,sumQ_zero (fun i _=>?_)]
   ·grind
   ·rw[tlr];split <;> grind⟩
 | x :: r,hr=>by
  obtain⟨u,hu,eu⟩:=said_row h X r (fun y hy=>hr y (List.mem_cons_of_mem _ hy))
  obtain⟨w,hw,ew⟩:=hr x (List.mem_cons_self ..)
  refine⟨_,hu.combine x.2 hw,fun q=>?_⟩
  have e1:(if q=x.1 then x.2 else 0)=x.2*(if q=x.1 then(1:Rat)else 0):=by split <;> grind
  have e2:sumQ (fun f=>(if ldOf leads f then 0 else -tlr X (x :: r) f)*rowOf leads f q) n=x.2*sumQ (fun f=>(if ldOf leads f then 0 else X x.1 f)*rowOf leads f q) n+sumQ (fun f=>(if ldOf leads f then 0 else -tlr X r f)*rowOf leads f q) n:=by
   rw[← sumQ_mul,← sumQ_add]
   refine sumQ_congr fun f _=>?_
   rw[tlr]
   split <;> grind
  rw[val_cons,e1,ew,eu,e2]
  grind
theorem said {n B:Nat} {leads:Nat→List (Nat×Rat)} (h:Good n B leads):∀ (m j:Nat),n - j≤m→j<n→∀ k,n - j≤k→k≤n→Said n leads (crd leads n k) j:=by
 intro m
 induction m with
 | zero=>intro j h1 h2;omega
 | succ m ih=>
  intro j hm hj k hk hkn
  by_cases hl:leads j=[]
  ·refine⟨fun _=>0,Sp.nil _ _ _,fun q=>?_⟩
   rw[sumQ_single hj (fun i _ hne=>?_)]
   ·have e1:rowOf leads j q=if q=j then 1 else 0:=by rw[rowOf,ldOf_false hl];rfl
    have e2:(if ldOf leads j=true then(0:Rat)else crd leads n k j j)=1:=by
     rw[ldOf_false hl]
     show crd leads n k j j=1
     rw[crd_free h hk hkn hj hl,if_pos rfl]
    rw[e2,e1]
    clear ih
    grind
   ·clear ih
    split
    ·grind
    ·rw[crd_free h hk hkn hj hl,if_neg hne];grind
  ·obtain⟨b,hb⟩:=(h.head j).resolve_left hl
   have ho:=h.ord j
   rw[hb]at ho
   obtain⟨u,hu,eu⟩:=said_row h (crd leads n k) b (fun x hx=>by
    obtain⟨_,h1,h2,_⟩:=val_mem ho.2.2.2 x hx
    dsimp only at h1
    exact ih x.1 (by omega) h2 k (by omega) hkn)
   have hlead:=Sp.lead (L:=rowOf leads) hj (ldOf_true hl)
   refine⟨_,hlead.combine (-1) hu,fun q=>?_⟩
   have e1:rowOf leads j q=(if q=j then 1 else 0)+val b q:=by rw[rowOf,ldOf_true hl,if_pos rfl,hb,val_cons]
   have e2:sumQ (fun f=>(if ldOf leads f then 0 else crd leads n k j f)*rowOf leads f q) n=-sumQ (fun f=>(if ldOf leads f then 0 else -tlr (crd leads n k) b f)*rowOf leads f q) n:=by
    have e3:-sumQ (fun f=>(if ldOf leads f then 0 else -tlr (crd leads n k) b f)*rowOf leads f q) n=-1*sumQ (fun f=>(if ldOf leads f then 0 else -tlr (crd leads n k) b f)*rowOf leads f q) n:=by grind
    rw[e3,← sumQ_mul]
    refine sumQ_congr fun f _=>?_
    rw[crd_lead h hk hkn hj hl,hb,List.tail_cons]
    split <;> grind
   rw[e1,e2,eu]
   grind
theorem crd_size {n B:Nat} {leads:Nat→List (Nat×Rat)} (hB:1≤B) (h:Good n B leads) {k j f:Nat} (hk:n - j≤k) (hkn:k≤n) (hj:j<n) (hf:f<n) (hl:leads f=[]):hq (crd leads n k j f)≤top n B:=by
 obtain⟨R,hi⟩:=h.inv
 obtain⟨u,hu,eu⟩:=said h n j (by omega) hj k hk hkn
 obtain⟨m,N,hm,hmc,hN,hE⟩:=hi.coords (fun q=>if q=j then 1 else 0) (fun q=>by split <;> simp <;> omega) n (crd leads n k j) u hu (fun q=>by rw[← eu];split <;> rfl)
 rw[rat_of_mul hm (hE f hf (ldOf_false hl))]
 exact hq_over hm (nd_top2 (Nat.le_refl _) (hN f hf)) (nd_top2 (Nat.le_refl _) hmc)
theorem tlr_size {X:Nat→Nat→Rat} {K:Nat} {f:Nat}:∀ (r:List (Nat×Rat)),(∀ x,x∈r→hq x.2≤K)→(∀ x,x∈r→hq (X x.1 f)≤K)→hq (tlr X r f)≤1+r.length*(2*K+1)
 | [],_,_=>by rw[tlr,hq_zero];omega
 | x :: r,h1,h2=>by
  have h3:=tlr_size r (fun y hy=>h1 y (List.mem_cons_of_mem _ hy)) (fun y hy=>h2 y (List.mem_cons_of_mem _ hy))
  have h4:=h1 x (List.mem_cons_self ..)
  have h5:=h2 x (List.mem_cons_self ..)
  have h6:=hq_add (tlr X r f) (-x.2*X x.1 f)
  have h7:=hq_mul (-x.2) (X x.1 f)
  rw[hq_neg]at h7
  rw[tlr,List.length_cons,Nat.succ_mul]
  omega
theorem ord_length {n:Nat}:∀ {t:Nat} {r:List (Nat×Rat)},Ord n t r→r.length≤n - t
 | _,[],_=>Nat.zero_le _
 | _,x :: r,h=>by
  have h1:=ord_length h.2.2.2
  have h2:=h.1
  have h3:=h.2.1
  rw[List.length_cons]
  omega
theorem top_72 {n B:Nat} (hn:n≤72) (hB:B≤16777216):top n B≤80:=by
 have h1:cap n B≤cap 72 16777216:=by
  refine Nat.le_trans (cap_mono hn) (Nat.pow_le_pow_left ?_ 72)
  have:=Nat.mul_le_mul_left (2*(72+1)) hB
  omega
 have h2:(n+1)*(B*cap n B)+cap n B≤(72+1)*(16777216*cap 72 16777216)+cap 72 16777216:=
  Nat.add_le_add (Nat.mul_le_mul (by omega) (Nat.mul_le_mul hB h1)) h1
 exact nd_le.2 (Nat.lt_of_le_of_lt h2 (by decide +kernel))
def frs (leads:Nat→List (Nat×Rat)) (n:Nat):List Nat:=(List.range n).filter (fun j=>(leads j).isEmpty)
theorem frs_succ (leads:Nat→List (Nat×Rat)) (n:Nat):frs leads (n+1)=if leads n=[]then frs leads n++[n]else frs leads n:=by
 rw[frs,List.range_succ,List.filter_append]
 by_cases h:leads n=[]
 ·rw[if_pos h,List.filter_cons,h];rfl
 ·rw[if_neg h,List.filter_cons]
  have:(leads n).isEmpty=false:=by cases e:leads n with
   | nil=>exact absurd e h
   | cons x r=>rfl
  rw[this]
  exact List.append_nil _
theorem frs_mem {leads:Nat→List (Nat×Rat)} {n j:Nat}:j∈frs leads n↔j<n∧leads j=[]:=by
 rw[frs,List.mem_filter,List.mem_range,List.isEmpty_iff]
theorem frs_length (leads:Nat→List (Nat×Rat)) (n:Nat):(frs leads n).length≤n:=by
 have:=List.length_filter_le (fun j=>(leads j).isEmpty) (List.range n)
 rw[List.length_range]at this
 exact this
theorem frs_mono (leads:Nat→List (Nat×Rat)) {j n:Nat} (h:j≤n):∃ l,frs leads n=frs leads j++l:=by
 induction n with
 | zero=>obtain rfl:j=0:=by omega
         exact⟨[],(List.append_nil _).symm⟩
 | succ n ih=>
  by_cases e:j=n+1
  ·subst e;exact⟨[],(List.append_nil _).symm⟩
  ·obtain⟨l,hl⟩:=ih (by omega)
   rw[frs_succ,hl]
   split
   ·exact⟨l++[n],by rw[List.append_assoc]⟩
   ·exact⟨l,rfl⟩
theorem frs_at (leads:Nat→List (Nat×Rat)) {j n:Nat} (h:j<n) (hl:leads j=[]):(frs leads j).length<(frs leads n).length∧(frs leads n)[(frs leads j).length]?=some j:=by
 obtain⟨l,e⟩:=frs_mono leads (j:=j+1) (n:=n) h
 rw[frs_succ,if_pos hl]at e
 constructor
 ·rw[e];simp
 ·rw[e];simp
theorem frs_pairwise (leads:Nat→List (Nat×Rat)) (n:Nat):(frs leads n).Pairwise (· < ·):=by
 rw[frs]
 exact List.Pairwise.filter _ List.pairwise_lt_range
end Eli
end Go.Proofs.YtenlbhlllgppmaaGreatDoor
namespace Go.Proofs.YtenlbhlllgppmaaGreatDoor
open Go.RowKit
theorem step_app2 {P:Program} {W:World} {ops:Array Oper} {o:Oper} {a:Act} {K':Act→World→Prop} {Q:Exit→Act→World→Prop} {E':Prop} (K:Value→Prop) (hgd:o.guard=none) (s x:Operand) (t E:TypeId)
  (ho:o.op=.call { callee:=.builtin .append,args:=#[s,x],argTypes:=#[t,t] }) {z:Value} {sz bytes:Nat} (hU:P.underlying t=some (.slice E))
  (hinfo:(P.info? E).map (fun i=>(i.zero,i.size,i.bytes))=some (some z,sz,bytes)) (hzs:z.cells.size=sz) (hsz:0<sz) (B n:Nat) (v:Value) (xs news:List Value)
  (hs:a.eval s=v) (hown:OwnK K W B E sz v n xs) (hx:a.eval x=.slice (some ⟨W.heap.size,0,none⟩) 1 1) (hn:news.length=sz) (h1:∀ u∈news,u.oneCell'=true)
  (hb:(n+1)*bytes≤140737488355328) (hm:n+1≤9223372036854775807) (hB:B≤W.heap.size) (hKn:∀ u∈news,K u) (hKz:∀ u∈z.cells.toList,K u)
  (h:∀ v' w',OwnK K w' B E sz v' (n+1) (xs++news)→W.grownBy w' v.ownBlock→(v'.ownBlock=v.ownBlock∨v'.ownBlock=some (W.heap.size+1))→K' (a.put o.dst v') w'):
  if Region.wanted o (yielded ops a.tmps)=true then Oper.wp P o a (W.alloc (.cells news.toArray E)) K' Q else E':=by
 have hw:Region.wanted o (yielded ops a.tmps)=true:=by simp[Region.wanted,hgd]
 rw[if_pos hw]
 obtain⟨i0,hi,hz0,hz1,hz2⟩:=info_parts hinfo
 have hcell:∀ (j:Nat) (u:Value),news[j]?=some u→(W.alloc (.cells news.toArray E)).cell? ((⟨W.heap.size,0,none⟩:Addr).add j)=some u:=by
  intro j u hu
  have hc:=(Blk.new W E news.toArray).cell_ j
  have e:(⟨W.heap.size,0,none⟩:Addr).add j=⟨W.heap.size,j,none⟩:=by
   unfold Addr.add;split
   ·rename_i h0;rw[h0]
   ·simp
  rw[e,hc]
  simpa using hu
 have hown2:OwnK K (W.alloc (.cells news.toArray E)) B E sz v n xs:=hown.keep ((Below.refl _ _).alloc (Nat.le_refl _) _)
 obtain⟨v',w',hr,g1,g2,_,g3⟩:=run_append_own_at (P:=P) (W.alloc (.cells news.toArray E)) B t o.type E i0 z sz bytes hU hi hz0 hz1 hz2 hzs hsz v n xs hown2.1 ⟨W.heap.size,0,none⟩ 1 1 news (by omega) hcell h1 hm hb (by simp;omega)
 have g4:=append_stk K (W.alloc (.cells news.toArray E)) B t o.type E i0 z sz bytes hU hi hz0 hz1 hz2 hzs hsz v n xs hown2.1 ⟨W.heap.size,0,none⟩ 1 1 news (by omega) hcell h1 hm hb (by omega) hown2.2 hKn hKz hr
 unfold Oper.wp execOp
 simp only[ho,resolve,invoke,builtin,Sem.run_bind,Sem.run_pure,Result.andThen_ok,List.map_toArray,List.map_cons,List.map_nil,hs,hx,hr]
 refine h v' w' ⟨g1,g4⟩ (grown_of_alloc g2) ?_
 rcases g3 with g3|g3
 ·exact .inl g3
 ·exact .inr (by rw[g3];simp)
theorem I32.putU {w:World} {R:Nat} (hs:Stk NotU32 w R) (i:Nat) (u:Value):I32 w (w.setCell ⟨R,i,none⟩ u):=
 ⟨by simp,fun g j n e=>by
  have hne:R≠g:=fun e2=>hs.2 j _ (by rw[e2];exact e) _ rfl
  rw[World.cell?_setCell_far w ⟨R,i,none⟩ ⟨g,j,none⟩ u hne]
  exact e⟩
theorem Stk.putU {K:Value→Prop} {w:World} {R:Nat} (h:Stk K w R) (p:Addr) (u:Value) (hu:K u):Stk K (w.setCell p u) R:=by
 refine⟨by simpa using h.1,fun i v hv=>?_⟩
 by_cases hp:p=⟨R,i,none⟩
 ·cases hc:w.cell? p with
  | none=>
   have:((w.setCell p u).cell? p)=none:=setCell_none u hc
   rw[← hp,this]at hv;cases hv
  | some y=>
   rw[← hp,World.cell?_setCell_same' _ _ _ (by rw[hc];rfl)]at hv
   injection hv with hv
   rw[← hv];exact hu
 ·rw[World.cell?_setCell_other _ _ _ _ hp]at hv
  exact h.2 i v hv
def TE (x:Nat×Rat) (w:World) (g i:Nat):Prop:=w.cell? ⟨g,i,none⟩=some (.int .i64 (x.1:Int))∧QE (IsQ x.2) w g (i+1)
theorem TE.keep {x:Nat×Rat} {w w':World} {g i:Nat} (h:TE x w g i) (hb:Below w.heap.size w w'):TE x w' g i:=
 ⟨(hb.cell (p:=⟨g,i,none⟩) (World.block_lt_of_cell? w ⟨g,i,none⟩ h.1)).trans h.1,h.2.keep (IsQ.solid _) hb⟩
theorem TE.next {x:Nat×Rat} {B:Nat} {w w':World} {g i:Nat} (h:TE x w g i) (hg:g<B) (h32:I32 w w') (hb:Below B w w'):TE x w' g i:=by
 have hk:∀ j v,w.cell? ⟨g,j,none⟩=some v→w'.cell? ⟨g,j,none⟩=some v:=fun j v e=>(hb.cell (p:=⟨g,j,none⟩) hg).trans e
 obtain⟨e,s,p,n,c,t,q,m,d,h0,h1,h2,h3,h4⟩:=h
 exact⟨hk _ _ e,s,p,n,c,t,q,m,d,hk _ _ h0,hk _ _ h1,hk _ _ h2,hk _ _ h3,h4.i32 h32⟩
def TL (l:List (Nat×Rat)) (w:World) (B:Nat) (v:Value):Prop:=
 (l=[]∧∃ a c,v=.slice a 0 c)∨∃ g o cap,v=.slice (some ⟨g,o,none⟩) l.length cap∧l.length≤cap∧cap≤9223372036854775807∧g<B∧∀ j x,l[j]?=some x→TE x w g (o+j*5)
theorem TL.next {l:List (Nat×Rat)} {w w':World} {B:Nat} {v:Value} (h:TL l w B v) (h32:I32 w w') (hb:Below B w w'):TL l w' B v:=by
 rcases h with h |⟨g,o,cap,e,hc,hc2,hg,ht⟩
 ·exact .inl h
 ·exact .inr ⟨g,o,cap,e,hc,hc2,hg,fun j x hx=>(ht j x hx).next hg h32 hb⟩
theorem TL.keep {l:List (Nat×Rat)} {w w':World} {B:Nat} {v:Value} (h:TL l w B v) (hB:B≤w.heap.size) (hb:Below w.heap.size w w'):TL l w' B v:=h.next (I32.below hb) (hb.mono hB)
theorem TL.up {l:List (Nat×Rat)} {w:World} {B B':Nat} {v:Value} (h:TL l w B v) (hB:B≤B'):TL l w B' v:=by
 rcases h with h |⟨g,o,cap,e,hc,hc2,hg,ht⟩
 ·exact .inl h
 ·exact .inr ⟨g,o,cap,e,hc,hc2,by omega,ht⟩
theorem TL.cons {x:Nat×Rat} {l:List (Nat×Rat)} {w:World} {B:Nat} {v:Value} (h:TL (x :: l) w B v):
  ∃ g o cap,v=.slice (some ⟨g,o,none⟩) (l.length+1) (cap+1)∧l.length≤cap∧cap<9223372036854775807∧g<B∧TE x w g o∧TL l w B (.slice (some ⟨g,o+5,none⟩) l.length cap):=by
 rcases h with⟨h,_⟩ |⟨g,o,cap,e,hc,hc2,hg,ht⟩
 ·cases h
 ·rw[List.length_cons]at e hc
  obtain⟨c,rfl⟩:∃ c,cap=c+1:=⟨cap - 1,by omega⟩
  refine⟨g,o,c,e,by omega,by omega,hg,by simpa using ht 0 x rfl,.inr ⟨g,o+5,c,rfl,by omega,by omega,hg,fun j y hy=>?_⟩⟩
  have h1:=ht (j+1) y hy
  rw[show o+(j+1)*5=o+5+j*5 by omega]at h1
  exact h1
theorem TL.nil {w:World} {B:Nat} {v:Value} (h:TL [] w B v):∃ a c,v=.slice a 0 c:=by
 rcases h with⟨_,h⟩ |⟨g,o,cap,e,_⟩
 ·exact h
 ·exact⟨_,_,e⟩
theorem TL.cut {l:List (Nat×Rat)} {w:World} {B:Nat} {a:Option Addr} {cap:Nat} (X:Option Addr) (h:TL l w B (.slice a l.length cap)) (hc:l.length≤cap):TL l w B (.slice (if cap=0 then X else a) l.length cap):=by
 by_cases h0:cap=0
 ·rw[if_pos h0]
  have hl:l=[]:=List.eq_nil_of_length_eq_zero (by omega)
  subst hl
  exact .inl ⟨rfl,_,_,rfl⟩
 ·rw[if_neg h0];exact h
def TX (x:Nat×Rat) (w:World) (xs:List Value) (i:Nat):Prop:=xs[i]?=some (.int .i64 (x.1:Int))∧QX (IsQ x.2) w xs (i+1)
def OwnT (l:List (Nat×Rat)) (w:World) (B:Nat) (v:Value):Prop:=∃ xs,OwnK NotU32 w B 110 5 v l.length xs∧∀ j x,l[j]?=some x→TX x w xs (j*5)
theorem OwnT.nil (w:World) (B:Nat):OwnT [] w B (.slice none 0 0):=⟨[],OwnK.nil _ _ _ _ _,fun j x hx=>by simp at hx⟩
theorem OwnT.keep {l:List (Nat×Rat)} {w w':World} {B:Nat} {v:Value} (h:OwnT l w B v) (hb:Below w.heap.size w w'):OwnT l w' B v:=by
 obtain⟨xs,h1,h2⟩:=h
 exact⟨xs,h1.keep hb,fun j x hx=>⟨(h2 j x hx).1,(h2 j x hx).2.i32 (IsQ.solid _) (I32.below hb)⟩⟩
theorem app_left {xs ys:List Value} {j:Nat} {v:Value} (e:xs[j]?=some v):(xs++ys)[j]?=some v:=by
 rw[List.getElem?_append_left]
 ·exact e
 ·rcases Nat.lt_or_ge j xs.length with hlt|hge
  ·exact hlt
  ·rw[List.getElem?_eq_none hge]at e;cases e
theorem OwnT.push {l:List (Nat×Rat)} {W w':World} {B:Nat} {v v':Value} {xs:List Value} (h1:OwnK NotU32 W B 110 5 v l.length xs) (h2:∀ j x,l[j]?=some x→TX x W xs (j*5))
  (a:Nat) (r:Rat) {s t:Bool} {p q:Option Addr} {k c m d:Nat} (hq:Qs W s p k c t q m d r) (h3:OwnK NotU32 w' B 110 5 v' (l.length+1) (xs++[.int .i64 (a:Int),.bool s,.slice p k c,.bool t,.slice q m d])) (hg:W.grownBy w' v.ownBlock):OwnT (l++[(a,r)]) w' B v':=by
 have h32:=I32.grown (K:=NotU32) (fun x=>not_u32 x) h1.2 hg
 have hl:xs.length=l.length*5:=h1.1.1
 refine⟨_,by rw[List.length_append];exact h3,fun j x hx=>?_⟩
 by_cases hj:j<l.length
 ·rw[List.getElem?_append_left hj]at hx
  obtain⟨e0,e1⟩:=h2 j x hx
  exact⟨app_left e0,(e1.i32 (IsQ.solid _) h32).app⟩
 ·rw[List.getElem?_append_right (by omega)]at hx
  have hj2:j=l.length:=by
   rcases Nat.eq_zero_or_pos (j - l.length)with h|h
   ·omega
   ·rw[List.getElem?_eq_none (by rw[List.length_singleton];omega)]at hx;cases hx
  subst hj2
  rw[Nat.sub_self]at hx
  injection hx with hx
  subst hx
  refine⟨?_,s,p,k,c,t,q,m,d,?_,?_,?_,?_,hq.i32 h32⟩
  ·rw[List.getElem?_append_right (by omega),hl,show l.length*5 - l.length*5=0 by omega];rfl
  ·rw[List.getElem?_append_right (by omega),hl,show l.length*5+1 - l.length*5=1 by omega];rfl
  ·rw[List.getElem?_append_right (by omega),hl,show l.length*5+1+1 - l.length*5=2 by omega];rfl
  ·rw[List.getElem?_append_right (by omega),hl,show l.length*5+1+2 - l.length*5=3 by omega];rfl
  ·rw[List.getElem?_append_right (by omega),hl,show l.length*5+1+3 - l.length*5=4 by omega];rfl
structure TRow (l:List (Nat×Rat)) (w:World) (g:Nat):Prop where
 stk:Stk NotU32 w g
 free:∀ i,i<l.length*5→w.frozen? ⟨g,i,none⟩=false
 has:∀ i,i<l.length*5→(w.cell? ⟨g,i,none⟩).isSome=true
 val:∀ j x,l[j]?=some x→TE x w g (j*5)
theorem OwnT.row {l:List (Nat×Rat)} {w:World} {B:Nat} {v:Value} (h:OwnT l w B v):(l=[]∧v=.slice none 0 0)∨∃ g cap,v=.slice (some ⟨g,0,none⟩) l.length cap∧l.length≤cap∧cap≤9223372036854775807∧B≤g∧g<w.heap.size∧TRow l w g:=by
 obtain⟨xs,h1,h2⟩:=h
 rcases h1.1.2 with⟨e1,e2⟩ |⟨g,cap,cs,e1,hB,hg,hn,hcm,hcs,_⟩
 ·exact .inl ⟨List.eq_nil_of_length_eq_zero e2,e1⟩
 ·right
  have hl:xs.length=l.length*5:=h1.1.1
  have hs:=h1.2 g (by rw[e1];rfl)
  subst e1
  refine⟨g,cap,rfl,hn,by simp only[maxLen]at hcm;omega,hB,hs.1,⟨hs,fun i _=>?_,fun i hi=>?_,fun j x hx=>?_⟩⟩
  ·exact Blk.free_ hg i
  ·rw[own_read h1.1 (List.getElem?_eq_getElem (by omega:i<xs.length))];rfl
  ·obtain⟨e0,s,p,n,c,t,q,m,d,f0,f1,f2,f3,f4⟩:=h2 j x hx
   exact⟨own_read h1.1 e0,s,p,n,c,t,q,m,d,own_read h1.1 f0,own_read h1.1 f1,own_read h1.1 f2,own_read h1.1 f3,f4⟩
theorem OwnT.tl {l:List (Nat×Rat)} {w:World} {B:Nat} {v:Value} (h:OwnT l w B v):TL l w w.heap.size v:=by
 rcases h.row with⟨rfl,rfl⟩ |⟨g,cap,rfl,h1,h2,_,h3,h4⟩
 ·exact .inl ⟨rfl,_,_,rfl⟩
 ·exact .inr ⟨g,0,cap,rfl,h1,h2,h3,fun j x hx=>by rw[Nat.zero_add];exact h4.val j x hx⟩
theorem termInfo:(Tryz.prog.info? 110).map (fun i=>(i.zero,i.size,i.bytes))=some (some (.agg #[.int .i64 0,.bool false,.slice none 0 0,.bool false,.slice none 0 0]),5,72):=by kernel_rfl
theorem oneT (a:Int) (s:Bool) (p:Option Addr) (n c:Nat) (t:Bool) (q:Option Addr) (m d:Nat):∀ u∈[Value.int .i64 a,.bool s,.slice p n c,.bool t,.slice q m d],u.oneCell'=true:=by
 intro u hu
 simp at hu
 rcases hu with rfl|rfl|rfl|rfl|rfl <;> rfl
theorem nuT (a:Int) (s:Bool) (p:Option Addr) (n c:Nat) (t:Bool) (q:Option Addr) (m d:Nat):∀ u∈[Value.int .i64 a,.bool s,.slice p n c,.bool t,.slice q m d],NotU32 u:=by
 intro u hu
 simp at hu
 rcases hu with rfl|rfl|rfl|rfl|rfl <;> exact fun _ h=>by cases h
theorem nuTz:∀ u∈(Value.agg #[.int .i64 0,.bool false,.slice none 0 0,.bool false,.slice none 0 0]).cells.toList,NotU32 u:=by
 intro u hu
 simp[Value.cells]at hu
 rcases hu with rfl|rfl|rfl|rfl|rfl <;> exact fun _ h=>by cases h
end Go.Proofs.YtenlbhlllgppmaaGreatDoor
