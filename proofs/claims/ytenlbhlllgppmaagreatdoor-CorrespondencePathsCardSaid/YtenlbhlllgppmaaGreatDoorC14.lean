/- Contracts of halfplanebase.SameInt and halfplaneref01.Of. -/
import Derived.Test.YtenlbhlllgppmaaGreatDoorC13
set_option maxRecDepth 100000
set_option maxHeartbeats 8000000
namespace Go.Proofs.YtenlbhlllgppmaaGreatDoor
section
open Go.RowKit Tryz
theorem Lt (s:Bool) (p:Option Addr) (n c:Nat) (x:Int) (t:Bool) (q:Option Addr) (m d:Nat) (y:Int) (w:World) (h:Zs w s p n c x) (h':Zs w t q m d y) (hn:n<=35184372088830):
  Calls prog 123 #[.agg #[.bool s,.slice p n c],.agg #[.bool t,.slice q m d]] w λe w'=>e=.returned (.bool (decide (x=y)))/\Below w.heap.size w w':=by
 obtain⟨r,hr⟩:∃r,decide (x=y)=r:=⟨_,rfl⟩
 rw[hr];obtain⟨hs,V,I⟩:=h;obtain⟨ht,U,J⟩:=h';unfold Nm at I J;rw[V]at I;rw[U]at J;have HR:=Kh hr;have HS:=Kh hs;have HT:=Kh ht;have HN:=Kh V;have HM:=Kh U;have HX:=Kh I;have HY:=Kh J;have E:=Kh (((Below.refl w.heap.size w).alloc (nL _) (.cells #[.bool s,.slice p n c] 84)).alloc (by simp) (.cells #[.bool t,.slice q m d] 84));clear hr hs ht V U I J;by_cases hst:s=t
 ·by_cases I:n=m
  ·subst hst I
   go_enter func123,ntmps123
   go_wp2;obtain⟨w0,M⟩:∃w0,(w.alloc (.cells #[.bool s,.slice p n c] 84)).alloc (.cells #[.bool s,.slice q n d] 84)=w0:=⟨_,rfl⟩
   rw[M];rw[M]at E;obtain⟨X0,X1,_⟩:=T8 w #[.bool s,.slice p n c] 84 #[.bool s,.slice q n d] 84;rw[M]at X0 X1;have a1:=X0.at_ 1 rfl;have b1:=X1.at_ 1 rfl;clear X0 X1 M;go_loopw [5] (λv5 wr=>∃i:Nat,i<=n/\v5=.int .i64 i/\(∀j,j<i->dg x.natAbs j=dg y.natAbs j)/\∃k,wr=w0.drewN k) (λv5 _=>n - (intOf v5).toNat)
   case atStart=>exact⟨0,Nat.zero_le _,rfl,λj hj=>absurd hj (Nat.not_lt_zero _),0,rfl⟩
   case round=>
    obtain⟨i,hi,rfl,aK,mr,rfl⟩:=hrel;have HE:=Kh aK;clear aK;by_cases hin:i<n
    ·obtain⟨g1,o1,rfl,bC,Z⟩:=HX.1.head (by omega)
     obtain⟨g2,o2,rfl,bE,aD⟩:=HY.1.head (by omega);have c1:w0.cell? ⟨g1,o1+i,none⟩=some (.int .u32 (dg x.natAbs i:Nat)):=(E.1.cell (p:=⟨g1,o1+i,none⟩) bC).trans (Z i hin);have c2:w0.cell? ⟨g2,o2+i,none⟩=some (.int .u32 (dg y.natAbs i:Nat)):=(E.1.cell (p:=⟨g2,o2+i,none⟩) bE).trans (aD i hin);obtain⟨u,hu⟩:∃u,dg x.natAbs i=u:=⟨_,rfl⟩
     obtain⟨v,hv⟩:∃v,dg y.natAbs i=v:=⟨_,rfl⟩
     rw[hu]at c1;rw[hv]at c2;have HU:=Kh hu;have HV:=Kh hv;clear Z aD hu hv;by_cases huv:u=v
     ·subst huv
      go_wp2;go_quiet (fail)
      go_wp2;go_roundw
      case rel=>exact⟨i+1,by omega,by go_num,λj hj=>by
       rcases Nat.lt_or_ge j i with h3|h3
       ·exact HE.1 j h3
       ·rw[show j=i from by omega,HU.1,HV.1],_,by first|rfl|rw[Lx]⟩
      case measure=>simp[intOf];omega
     ·have gL:((u:Int) !=(v:Int))=true:=by rw[bne_iff_ne];omega
      have O:=Kh (show false=r by
       rw[<-HR.1];refine(decide_eq_false λh=>huv ?_).symm;rw[<-HU.1,<-HV.1,h])
      clear huv;go_wp2;go_quiet (fail)
      go_wp2;go_ret;exact⟨by rw[<-O.1];rfl,by first|exact Aa (Aa E.1 _) _|exact Aa E.1 _⟩
    ·obtain rfl:i=n:=by omega
     have O:=Kh (show true=r by
      rw[<-HR.1];refine(decide_eq_true ?_).symm;have h1:=gQ HN.1 HM.1 HE.1;have h2:=HS.1;rw[HT.1,decide_eq_decide]at h2;omega)
     go_wp2;go_ret;exact⟨by rw[<-O.1];rfl,Aa E.1 _⟩
  ·subst hst
   have gF:((n:Int) !=(m:Int))=true:=by rw[bne_iff_ne];omega
   have O:=Kh (show false=r by
    rw[<-HR.1];exact(decide_eq_false λh=>I (by rw[<-HN.1,<-HM.1,h])).symm)
   clear I;go_enter func123,ntmps123
   go_wp2;go_ret;exact⟨by rw[<-O.1];rfl,E.1⟩
 ·obtain rfl:t = !s:=by cases s <;> cases t <;> simp_all
  have gI:(s != !s)=true:=by cases s <;> rfl
  have O:=Kh (show false=r by
   rw[<-HR.1];refine(decide_eq_false λh=>?_).symm;have h1:=HS.1;have h2:=HT.1;rw[<-h,<-h1]at h2;cases s <;> cases h2)
  clear hst;go_enter func123,ntmps123
  go_wp2;go_ret;exact⟨by rw[<-O.1];rfl,E.1⟩
def TwoQ (w:World) (A B:Nat) (x y:Rat):Prop:=∃s1 p1 n1 c1 t1 q1 m1 d1 s2 p2 n2 c2 t2 q2 m2 d2,Blk w A 86 #[.bool s1,.slice p1 n1 c1,.bool t1,.slice q1 m1 d1]/\Blk w B 86 #[.bool s2,.slice p2 n2 c2,.bool t2,.slice q2 m2 d2]/\Qs w s1 p1 n1 c1 t1 q1 m1 d1 x/\Qs w s2 p2 n2 c2 t2 q2 m2 d2 y
theorem TwoQ.symm {w:World} {A B:Nat} {x y:Rat} (h:TwoQ w A B x y):TwoQ w B A y x:=by
 obtain⟨s1,p1,n1,c1,t1,q1,V,O,s2,p2,n2,c2,t2,q2,Z,U,E,I,J,M⟩:=h;exact⟨_,_,_,_,_,_,_,_,_,_,_,_,_,_,_,_,I,E,M,J⟩
def Stk (K:Value->Prop) (w:World) (R:Nat):Prop:=R<w.heap.size/\∀i v,w.cell? ⟨R,i,none⟩=some v->K v
theorem Stk.sts {w:World} {R:Nat} (h:Stk NotInt w R):Sts w R:=h
theorem Stk.next {K:Value->Prop} {w w':World} {R:Nat} (E:Below w.heap.size w w') (h:Stk K w R):Stk K w' R:=
 ⟨nN h.1 E.size,λi v I=>h.2 i v ((E.cell (p:=⟨R,i,none⟩) h.1).symm.trans I)⟩
theorem Stk.of {K:Value->Prop} {w:World} {R:Nat} {t:TypeId} {cs:Array Value} (h:Blk w R t cs) (I:∀v∈cs.toList,K v):Stk K w R:=
 ⟨h.lt,λi v E=>by
  rw[h.cell_ i]at E;exact I v (List.mem_of_getElem? (by simpa using E))⟩
theorem Stk.cells {K:Value->Prop} {w:World} {R:Nat} {t:TypeId} {cs:Array Value} (h:Blk w R t cs) (I:Stk K w R):∀v∈cs.toList,K v:=by
 intro v J;obtain⟨i,E⟩:=List.getElem?_of_mem J;exact I.2 i v (by rw[h.cell_ i];simpa using E)
theorem Ga {z:Array Value} {n:Nat} {v:Value} (h:v∈(Builtin.zeroCells z n).toList):v∈z.toList:=by
 simp only[Builtin.zeroCells,Array.toList_map,List.mem_map,Array.toList_range,List.mem_range]at h;obtain⟨i,M,rfl⟩:=h
 have J:0<z.size:=by
  rcases Nat.eq_zero_or_pos z.size with E|E
  ·rw[E]at M;omega
  ·exact E
 have I:=Nat.mod_lt i J;rw[getElem!_pos z (i % z.size) I];exact Array.getElem_mem_toList I
theorem Ep {P:Program} (K:Value->Prop) (w:World) (B:Nat) (t ty e:TypeId) (i:TypeInfo) (z:Value) (size O:Nat) (ht:P.underlying t=some (.slice e)) (hi:P.info? e=some i) (hz:i.zero=some z)
  (aX:i.size=size) (cF:i.bytes=O) (eX:z.cells.size=size) (eT:0<size)
  (v:Value) (n:Nat) (xs:List Value) (V:w.ownsRow B e size v n xs)
  (a:Addr) (m c:Nat) (I:List Value) (hl:I.length=m*size) (J:∀j u,I[j]?=some u->w.cell? (a.add j)=some u) (h1:∀u∈I,u.oneCell'=true)
  (cC:n+m<=maxLen) (M:(n+m)*O<=140737488355328) (hm:0<m)
  (hK:∀g,v.ownBlock=some g->Stk K w g) (aK:∀u∈I,K u) (bB:∀u∈z.cells.toList,K u)
  {v':Value} {w':World} (hr:(Builtin.append_ #[t,t] ty #[v,.slice (some a) m c]).run P w=.ok v' w'):
  ∀g,v'.ownBlock=some g->Stk K w' g:=by
 subst aX;subst cF;have bY:n+m<=9223372036854775807:=by simp only[maxLen]at cC;omega
 rcases V.2 with⟨rfl,rfl⟩ |⟨g,cap,h,rfl,eF,hg,eP,eG,cG,bA⟩
 ·have Z:=run_append_nil (P:=P) w t ty e i z ht hi hz a m c I hl J (by omega) (by omega) (by have hb:=M;simp only[Nat.zero_add]at hb;omega)
  rw[Z]at hr;injection hr with hr3 hr4
  subst hr3;subst hr4;intro g hg;simp[Value.ownBlock]at hg;subst hg;refine Stk.of (Blk.new w.drew e _) ?_;intro u E;rw[Array.toList_append,List.mem_append]at E;rcases E with E|E
  ·exact aK u (by simpa using E)
  ·exact bB u (Ga E)
 ·have hS:=hK g rfl
  have aD:=Stk.cells (t:=e) hg hS;have cD:∀u∈xs,K u:=λu E=>aD u (List.mem_of_mem_take (by rw[bA];exact E))
  by_cases hroom:n+m<=cap
  ·have bC:n*i.size+I.length<=h.size:=by rw[hl,cG,<-Nat.add_mul];exact Nat.mul_le_mul_right _ hroom
   have Z:=run_append_room (P:=P) w t ty e i ht hi g n cap h hg a m c I hl J h1 hroom bC;rw[Z]at hr;injection hr with hr3 hr4
   subst hr3;subst hr4;intro g' U;simp[Value.ownBlock]at U;subst U;refine Stk.of (t:=e) (setRow_heap w g h _ e _ hg) ?_;intro u E;simp only[List.mem_append]at E;rcases E with(E|E)|E
   ·exact aD u (List.mem_of_mem_take E)
   ·exact aK u E
   ·exact aD u (List.mem_of_mem_drop E)
  ·have aN:∀j u,xs[j]?=some u->w.cell? ((⟨g,0,none⟩:Addr).add j)=some u:=V.cells (g:=g) rfl
   have Z:=run_append_grow (P:=P) w t ty e i z ht hi hz ⟨g,0,none⟩ n cap xs V.1 aN a m c I hl J (by omega) (by omega) (growslice_fits (by omega) M);rw[Z]at hr;injection hr with hr3 hr4
   subst hr3;subst hr4;intro g' U;simp[Value.ownBlock]at U;subst U;refine Stk.of (Blk.new w.drew e _) ?_;intro u E;rw[Array.toList_append,List.mem_append,Array.toList_append,List.mem_append]at E;rcases E with(E|E)|E
   ·exact cD u (by simpa using E)
   ·exact aK u (by simpa using E)
   ·exact bB u (Ga E)
def OwnK (K:Value->Prop) (w:World) (B E sz:Nat) (v:Value) (n:Nat) (xs:List Value):Prop:=w.ownsRow B E sz v n xs/\∀g,v.ownBlock=some g->Stk K w g
theorem OwnK.nil (K:Value->Prop) (w:World) (B E sz:Nat):OwnK K w B E sz (.slice none 0 0) 0 []:=⟨World.ownsRow_nil w B E sz,λg hg=>by simp[Value.ownBlock]at hg⟩
theorem OwnK.keep {K:Value->Prop} {w w':World} {B E sz n:Nat} {v:Value} {J:List Value} (h:OwnK K w B E sz v n J) (I:Below w.heap.size w w'):OwnK K w' B E sz v n J:=
 ⟨Kl h.1 I,λg hg=>(h.2 g hg).next I⟩
theorem Bk {P:Program} {W:World} {bC:Array Oper} {rest:List Oper} {o:Oper} {a:Act} {Q:Exit->Act->World->Prop} (K:Value->Prop) (cC:o.guard=none) (s x:Operand) (t E:TypeId)
  (ho:o.op=.call { callee:=.builtin .append,args:=#[s,x],argTypes:=#[t,t] }) {z:Value} {sz J:Nat} (hU:P.underlying t=some (.slice E))
  (U:(P.info? E).map (λi=>(i.zero,i.size,i.bytes))=some (some z,sz,J)) (bB:z.cells.size=sz) (aK:0<sz) (B n:Nat) (v:Value) (xs I:List Value)
  (hs:a.eval s=v) (aD:OwnK K W B E sz v n xs) (hx:a.eval x=.slice (some ⟨W.heap.size,0,none⟩) 1 1) (hn:I.length=sz) (h1:∀u∈I,u.oneCell'=true)
  (hb:(n+1)*J<=140737488355328) (hm:n+1<=9223372036854775807) (hB:B<=W.heap.size) (cA:∀u∈I,K u) (cB:∀u∈z.cells.toList,K u)
  (h:∀V w',OwnK K w' B E sz V (n+1) (xs++I)->W.grownBy w' v.ownBlock->(V.ownBlock=v.ownBlock∨V.ownBlock=some (W.heap.size+1))->wpList P bC Q rest (a.put o.dst V) w'):
  wpList P bC Q (o :: rest) a (W.alloc (.cells I.toArray E)):=by
 obtain⟨i0,hi,aN,aX,bA⟩:=info_parts U
 have O:∀(j:Nat) (u:Value),I[j]?=some u->(W.alloc (.cells I.toArray E)).cell? ((⟨W.heap.size,0,none⟩:Addr).add j)=some u:=by
  intro j u hu;have hc:=(Blk.new W E I.toArray).cell_ j
  have e:(⟨W.heap.size,0,none⟩:Addr).add j=⟨W.heap.size,j,none⟩:=by
   unfold Addr.add;split
   ·rename_i h0;rw[h0]
   ·simp
  rw[e,hc]
  simpa using hu
 have M:OwnK K (W.alloc (.cells I.toArray E)) B E sz v n xs:=aD.keep ((Below.refl _ _).alloc (nL _) _);obtain⟨V,w',hr,g1,g2,_,Z⟩:=run_append_own_at (P:=P) (W.alloc (.cells I.toArray E)) B t o.type E i0 z sz J hU hi aN aX bA bB aK v n xs M.1 ⟨W.heap.size,0,none⟩ 1 1 I (by omega) O h1 hm hb (by simp;omega);have g4:=Ep K (W.alloc (.cells I.toArray E)) B t o.type E i0 z sz J hU hi aN aX bA bB aK v n xs M.1 ⟨W.heap.size,0,none⟩ 1 1 I (by omega) O h1 hm hb (by omega) M.2 cA cB hr;refine wpList_plain cC λK' bY=>?_
 unfold Oper.wp execOp;simp only[ho,resolve,invoke,builtin,Sem.run_bind,Sem.run_pure,Result.andThen_ok,List.map_toArray,List.map_cons,List.map_nil,hs,hx,hr];refine bY _ _ (h V w' ⟨g1,g4⟩ (Dv g2) ?_);rcases Z with Z|Z
 ·exact .inl Z
 ·exact .inr (by rw[Z];simp)
/-! What keeps the digits -/
structure I32 (w w':World):Prop where
 size:w.heap.size<=w'.heap.size
 cell:∀(g i n:Nat),w.cell? ⟨g,i,none⟩=some (.int .u32 n)->w'.cell? ⟨g,i,none⟩=some (.int .u32 n)
theorem I32.refl (w:World):I32 w w:=⟨nL _,λ_ _ _ h=>h⟩
theorem I32.trans {a b c:World} (h:I32 a b) (k:I32 b c):I32 a c:=⟨nM h.size k.size,λg i n e=>k.cell g i n (h.cell g i n e)⟩
theorem I32.below {w w':World} (E:Below w.heap.size w w'):I32 w w':=
 ⟨E.size,λg i _ e=>(E.cell (p:=⟨g,i,none⟩) (World.block_lt_of_cell? w ⟨g,i,none⟩ e)).trans e⟩
theorem I32.put {w:World} {R:Nat} (J:Sts w R) (i:Nat) (u:Value):I32 w (w.setCell ⟨R,i,none⟩ u):=
 ⟨by simp,λg j n e=>by
  have E:R≠g:=λI=>J.2 j _ (by rw[I];exact e) _ _ rfl
  rw[World.cell?_setCell_far w ⟨R,i,none⟩ ⟨g,j,none⟩ u E];exact e⟩
theorem I32.put4 {w:World} {R:Nat} (E:Sts w R) (i j k l:Nat) (v0 v1 v2 v3:Value) (I:NotInt v0) (J:NotInt v1) (M:NotInt v2):
  I32 w ((((w.setCell ⟨R,i,none⟩ v0).setCell ⟨R,j,none⟩ v1).setCell ⟨R,k,none⟩ v2).setCell ⟨R,l,none⟩ v3):=
 (((I32.put E i v0).trans (I32.put (E.put _ _ I) j v1)).trans (I32.put ((E.put _ _ I).put _ _ J) k v2)).trans (I32.put (((E.put _ _ I).put _ _ J).put _ _ M) l v3)
theorem I32.put2 {w:World} {R:Nat} (E:Sts w R) (i j:Nat) (v0 v1:Value) (I:NotInt v0):I32 w ((w.setCell ⟨R,i,none⟩ v0).setCell ⟨R,j,none⟩ v1):=
 (I32.put E i v0).trans (I32.put (E.put _ _ I) j v1)
theorem I32.grown {K:Value->Prop} (E:∀n,¬K (.int .u32 n)) {w w':World} {v:Value} (hK:∀g,v.ownBlock=some g->Stk K w g) (hg:w.grownBy w' v.ownBlock):I32 w w':=
 ⟨hg.size,λg i n e=>hg.cell e (λI=>E n ((hK g I.symm).2 i _ e))⟩
theorem Fx (n:Int):¬NotInt (.int .u32 n):=λh=>h _ _ rfl
theorem Dg.i32 {w w':World} (h:I32 w w') {p:Option Addr} {c n:Nat} {a:Nat->Nat} (E:Dg w p c n a):Dg w' p c n a:=
 ⟨E.cap,E.lt,by
  rcases E.at' with I |⟨g,o,e,hg,J⟩
  ·exact .inl I
  ·exact .inr ⟨g,o,e,nN hg h.size,λj M=>h.cell _ _ _ (J j M)⟩⟩
theorem Zs.i32 {w w':World} (h:I32 w w') {s:Bool} {p:Option Addr} {n c:Nat} {z:Int} (E:Zs w s p n c z):Zs w' s p n c z:=⟨E.1,E.2.1,Dg.i32 h E.2.2⟩
theorem Zr.i32 {w w':World} (h:I32 w w') {s:Bool} {p:Option Addr} {n c:Nat} {z:Int} (J:Zr w s p n c z):Zr w' s p n c z:=by
 obtain⟨a,E,I⟩:=J;exact⟨a,Dg.i32 h E,I⟩
theorem Qs.i32 {w w':World} (h:I32 w w') {s:Bool} {p:Option Addr} {n c:Nat} {t:Bool} {q:Option Addr} {m d:Nat} {r:Rat} (E:Qs w s p n c t q m d r):Qs w' s p n c t q m d r:=⟨E.1.i32 h,E.2.i32 h⟩
/-! Elements of rows of fractions -/
abbrev FP:=World->Bool->Option Addr->Nat->Nat->Bool->Option Addr->Nat->Nat->Prop
def Bi (P:FP):Prop:=∀w w' s p n c t q m d,I32 w w'->P w s p n c t q m d->P w' s p n c t q m d
def IsQ (r:Rat):FP:=λw s p n c t q m d=>Qs w s p n c t q m d r
theorem IsQ.solid (r:Rat):Bi (IsQ r):=λ_ _ _ _ _ _ _ _ _ _ h hq=>hq.i32 h
def IsR (x y:Int):FP:=λw s p n c t q m d=>Zr w s p n c x/\Zr w t q m d y/\n<=4/\m<=4
theorem IsR.solid (x y:Int):Bi (IsR x y):=λ_ _ _ _ _ _ _ _ _ _ h hq=>⟨hq.1.i32 h,hq.2.1.i32 h,hq.2.2⟩
def QE (P:FP) (w:World) (g i:Nat):Prop:=∃s p n c t q m d,w.cell? ⟨g,i,none⟩=some (.bool s)/\w.cell? ⟨g,i+1,none⟩=some (.slice p n c)/\w.cell? ⟨g,i+2,none⟩=some (.bool t)/\w.cell? ⟨g,i+3,none⟩=some (.slice q m d)/\P w s p n c t q m d
theorem QE.keep {P:FP} (Z:Bi P) {w w':World} {g i:Nat} (h:QE P w g i) (I:Below w.heap.size w w'):QE P w' g i:=by
 obtain⟨s,p,n,c,t,q,m,d,J,M,O,U,V⟩:=h;have E:∀j v,w.cell? ⟨g,j,none⟩=some v->w'.cell? ⟨g,j,none⟩=some v:=λj v e=>(I.cell (p:=⟨g,j,none⟩) (World.block_lt_of_cell? w ⟨g,j,none⟩ e)).trans e
 exact⟨s,p,n,c,t,q,m,d,E _ _ J,E _ _ M,E _ _ O,E _ _ U,Z _ _ _ _ _ _ _ _ _ _ (I32.below I) V⟩
def QL (F:Nat->FP) (w:World) (v:Value) (n:Nat):Prop:=(n=0/\∃a c,v=.slice a 0 c)∨∃g o cap,v=.slice (some ⟨g,o,none⟩) n cap/\g<w.heap.size/\∀j,j<n->QE (F j) w g (o+j*4)
theorem QL.keep {F:Nat->FP} (hF:∀j,Bi (F j)) {w w':World} {v:Value} {n:Nat} (h:QL F w v n) (E:Below w.heap.size w w'):QL F w' v n:=by
 rcases h with h |⟨g,o,cap,e,hg,I⟩
 ·exact .inl h
 ·exact .inr ⟨g,o,cap,e,nN hg E.size,λj J=>(I j J).keep (hF j) E⟩
structure QRow (F:Nat->FP) (w:World) (g N k:Nat):Prop where
 sts:Sts w g
 free:∀i,i<N*4->w.frozen? ⟨g,i,none⟩=false
 has:∀i,i<N*4->(w.cell? ⟨g,i,none⟩).isSome=true
 val:∀j,j<k->QE (F j) w g (j*4)
theorem QRow.keep {F:Nat->FP} (hF:∀j,Bi (F j)) {w w':World} {g N k:Nat} (h:QRow F w g N k) (E:Below w.heap.size w w'):QRow F w' g N k:=
 ⟨h.sts.next E,λi I=>Ab E (h.has i I) (h.free i I),λi I=>by rw[E.cell (p:=⟨g,i,none⟩) h.sts.1];exact h.has i I,λj J=>(h.val j J).keep (hF j) E⟩
theorem QRow.ql {F:Nat->FP} {w:World} {g N:Nat} (h:QRow F w g N N) (c:Nat):QL F w (.slice (some ⟨g,0,none⟩) N c) N:=
 .inr ⟨g,0,c,rfl,h.sts.1,λj E=>by rw[Nat.zero_add];exact h.val j E⟩
theorem QRow.congr {F G:Nat->FP} {w:World} {g N k:Nat} (h:QRow F w g N k) (e:∀j,j<k->F j=G j):QRow G w g N k:=⟨h.sts,h.free,h.has,λj E=>by rw[<-e j E];exact h.val j E⟩
theorem Ak {w:World} {a:Addr} {R i:Nat} {u:Value} (h:(w.cell? a).isSome=true):((w.setCell ⟨R,i,none⟩ u).cell? a).isSome=true:=Bb h
theorem QRow.set {F:Nat->FP} (hF:∀j,Bi (F j)) {w:World} {g N k k':Nat} (h:QRow F w g N k) (j:Nat) (hj:j<N) (G:Nat->FP) (hG:Bi (G j)) (hk:∀i,i<k'->i≠j->i<k/\F i=G i)
  {s t:Bool} {p q:Option Addr} {n c m d:Nat} (hq:G j w s p n c t q m d):
  QRow G ((((w.setCell ⟨g,j*4,none⟩ (.bool s)).setCell ⟨g,j*4+1,none⟩ (.slice p n c)).setCell ⟨g,j*4+2,none⟩ (.bool t)).setCell ⟨g,j*4+3,none⟩ (.slice q m d)) g N k':=by
 have I:=I32.put4 h.sts (j*4) (j*4+1) (j*4+2) (j*4+3) (.bool s) (.slice p n c) (.bool t) (.slice q m d) (NotInt.bool _) (NotInt.slice _ _ _) (NotInt.bool _);have s1:=h.sts.put ⟨g,j*4,none⟩ (.bool s) (NotInt.bool _);have s2:=s1.put ⟨g,j*4+1,none⟩ (.slice p n c) (NotInt.slice _ _ _);have s3:=s2.put ⟨g,j*4+2,none⟩ (.bool t) (NotInt.bool _);have s4:=s3.put ⟨g,j*4+3,none⟩ (.slice q m d) (NotInt.slice _ _ _);refine⟨s4,λi J=>Aw (Aw (Aw (Aw (h.free i J)))),λi J=>Ak (Ak (Ak (Ak (h.has i J)))),λi J=>?_⟩;by_cases hij:i=j
 ·subst hij
  have c0:=h.has (i*4) (by omega);have c1:=Ak (R:=g) (i:=i*4) (u:=.bool s) (h.has (i*4+1) (by omega));have c2:=Ak (R:=g) (i:=i*4+1) (u:=.slice p n c) (Ak (R:=g) (i:=i*4) (u:=.bool s) (h.has (i*4+2) (by omega)));have c3:=Ak (R:=g) (i:=i*4+2) (u:=.bool t) (Ak (R:=g) (i:=i*4+1) (u:=.slice p n c) (Ak (R:=g) (i:=i*4) (u:=.bool s) (h.has (i*4+3) (by omega))));refine⟨s,p,n,c,t,q,m,d,?_,?_,?_,?_,hG _ _ _ _ _ _ _ _ _ _ I hq⟩
  ·rw[World.cell?_setCell_other _ _ _ _ (by simp),World.cell?_setCell_other _ _ _ _ (by simp),World.cell?_setCell_other _ _ _ _ (by simp),World.cell?_setCell_same' _ _ _ c0]
  ·rw[World.cell?_setCell_other _ _ _ _ (by simp),World.cell?_setCell_other _ _ _ _ (by simp),World.cell?_setCell_same' _ _ _ c1]
  ·rw[World.cell?_setCell_other _ _ _ _ (by simp),World.cell?_setCell_same' _ _ _ c2]
  ·rw[World.cell?_setCell_same' _ _ _ c3]
 ·obtain⟨M,e⟩:=hk i J hij
  obtain⟨s',p',n',O,t',q',m',U,V,Z,e2,e3,e4⟩:=h.val i M;rw[<-e]
  have E:∀(x:Nat) (v:Value),i*4<=x->x<i*4+4->w.cell? ⟨g,x,none⟩=some v->((((w.setCell ⟨g,j*4,none⟩ (.bool s)).setCell ⟨g,j*4+1,none⟩ (.slice p n c)).setCell ⟨g,j*4+2,none⟩ (.bool t)).setCell ⟨g,j*4+3,none⟩ (.slice q m d)).cell? ⟨g,x,none⟩=some v:=by
   intro x v bC bE hv;rw[World.cell?_setCell_other _ _ _ _ (by simp <;> omega),World.cell?_setCell_other _ _ _ _ (by simp <;> omega),World.cell?_setCell_other _ _ _ _ (by simp <;> omega),World.cell?_setCell_other _ _ _ _ (by simp <;> omega)];exact hv
  exact⟨s',p',n',O,t',q',m',U,E _ _ (by omega) (by omega) V,E _ _ (by omega) (by omega) Z,E _ _ (by omega) (by omega) e2,E _ _ (by omega) (by omega) e3,hF i _ _ _ _ _ _ _ _ _ _ I e4⟩
def QX (P:FP) (w:World) (xs:List Value) (i:Nat):Prop:=∃s p n c t q m d,xs[i]?=some (.bool s)/\xs[i+1]?=some (.slice p n c)/\xs[i+2]?=some (.bool t)/\xs[i+3]?=some (.slice q m d)/\P w s p n c t q m d
def OwnQ (F:Nat->FP) (w:World) (B:Nat) (v:Value) (n:Nat):Prop:=∃xs,OwnK NotInt w B 86 4 v n xs/\∀j,j<n->QX (F j) w xs (j*4)
theorem OwnQ.nil (F:Nat->FP) (w:World) (B:Nat):OwnQ F w B (.slice none 0 0) 0:=⟨[],OwnK.nil _ _ _ _ _,λ_ E=>absurd E (Nat.not_lt_zero _)⟩
theorem QX.i32 {P:FP} (V:Bi P) {w w':World} (h:I32 w w') {E:List Value} {i:Nat} (Z:QX P w E i):QX P w' E i:=by
 obtain⟨s,p,n,c,t,q,m,d,I,J,M,O,U⟩:=Z;exact⟨s,p,n,c,t,q,m,d,I,J,M,O,V _ _ _ _ _ _ _ _ _ _ h U⟩
theorem OwnQ.keep {F:Nat->FP} (hF:∀j,Bi (F j)) {w w':World} {B n:Nat} {v:Value} (h:OwnQ F w B v n) (E:Below w.heap.size w w'):OwnQ F w' B v n:=by
 obtain⟨O,I,J⟩:=h;exact⟨O,I.keep E,λj M=>(J j M).i32 (hF j) (I32.below E)⟩
theorem QX.app {P:FP} {w:World} {E M:List Value} {i:Nat} (h:QX P w E i):QX P w (E++M) i:=by
 obtain⟨s,p,n,c,t,q,m,d,O,U,V,Z,h4⟩:=h
 have I:∀(j:Nat) (v:Value),E[j]?=some v->(E++M)[j]?=some v:=by
  intro j v e;rw[List.getElem?_append_left]
  ·exact e
  ·rcases Nat.lt_or_ge j E.length with hlt|J
   ·exact hlt
   ·rw[List.getElem?_eq_none J]at e;cases e
 exact⟨s,p,n,c,t,q,m,d,I _ _ O,I _ _ U,I _ _ V,I _ _ Z,h4⟩
theorem OwnQ.push {F:Nat->FP} (hF:∀j,Bi (F j)) {W w':World} {B n:Nat} {v O:Value} {J:List Value} (M:OwnK NotInt W B 86 4 v n J) (U:∀j,j<n->QX (F j) W J (j*4))
  {s t:Bool} {p q:Option Addr} {k c m d:Nat} (hq:F n W s p k c t q m d) (V:OwnK NotInt w' B 86 4 O (n+1) (J++[.bool s,.slice p k c,.bool t,.slice q m d])) (hg:W.grownBy w' v.ownBlock):OwnQ F w' B O (n+1):=by
 have E:=I32.grown (K:=NotInt) (λx=>Fx x) M.2 hg;refine⟨_,V,λj Z=>?_⟩;by_cases hjn:j<n
 ·exact((U j hjn).i32 (hF j) E).app
 ·obtain rfl:j=n:=by omega
  have I:J.length=j*4:=M.1.1;refine⟨s,p,k,c,t,q,m,d,?_,?_,?_,?_,hF j _ _ _ _ _ _ _ _ _ _ E hq⟩
  ·rw[List.getElem?_append_right (by omega),I,show j*4 - j*4=0 by omega];rfl
  ·rw[List.getElem?_append_right (by omega),I,show j*4+1 - j*4=1 by omega];rfl
  ·rw[List.getElem?_append_right (by omega),I,show j*4+2 - j*4=2 by omega];rfl
  ·rw[List.getElem?_append_right (by omega),I,show j*4+3 - j*4=3 by omega];rfl
theorem OwnQ.row {F:Nat->FP} {w:World} {B n:Nat} {v:Value} (h:OwnQ F w B v n):(n=0/\v=.slice none 0 0)∨∃g cap,v=.slice (some ⟨g,0,none⟩) n cap/\B<=g/\QRow F w g n n:=by
 obtain⟨J,E,h2⟩:=h;rcases Cb E.1 with⟨rfl,rfl,_⟩ |⟨g,cap,rfl,hB,hg,hc⟩
 ·exact .inl ⟨rfl,rfl⟩
 ·right
  have hl:J.length=n*4:=E.1.1;have hs:=E.2 g rfl;refine⟨g,cap,rfl,hB,⟨hs,?_,?_,?_⟩⟩
  ·intro i hi
   rcases Eh E.1 with I |⟨g',cs,I,_,h4⟩
   ·simp[Value.ownBlock]at I
   ·simp[Value.ownBlock]at I
    subst I;exact h4.free_ i
  ·intro i hi
   rw[Ai E.1 (List.getElem?_eq_getElem (by omega:i<J.length))];rfl
  ·intro j hj
   obtain⟨s,p,n',c,t,q,m,d,M,O,U,V,Z⟩:=h2 j hj;exact⟨s,p,n',c,t,q,m,d,Ai E.1 M,Ai E.1 O,Ai E.1 U,Ai E.1 V,Z⟩
theorem OwnQ.ql {F:Nat->FP} {w:World} {B n:Nat} {v:Value} (h:OwnQ F w B v n):QL F w v n:=by
 rcases h.row with⟨rfl,rfl⟩ |⟨g,cap,rfl,_,hr⟩
 ·exact .inl ⟨rfl,_,_,rfl⟩
 ·exact hr.ql cap
def lD (neg:Bool) (v:Nat) (S:Nat) (w:World) (u:Value) (wr:World):Prop:=
 Blk wr S 84 #[.bool false,.slice none 0 0]/\Below S w wr/\S<wr.heap.size /\
 ((u=.int .u64 (v:Nat)/\Blk wr (S+1) 84 #[.bool neg,.slice none 0 0]) ∨
  (u=.int .u64 0/\v≠0/\∃p c,Blk wr (S+1) 84 #[.bool neg,.slice p 1 c]/\Dg wr p c 1 (λ_=>v)))
theorem lF (n:Int) (w:World) (h1:-2147483648<=n) (h2:n<=2147483648):
  Calls prog 110 #[.int .i64 n] w λe w'=>K7 w' e n/\Below w.heap.size w w':=by
 obtain⟨v,hv⟩:∃v:Nat,n.natAbs=v:=⟨_,rfl⟩
 have cG:v<4294967296:=by omega
 have cC:(v:Int) % 4294967296=(v:Nat):=by omega
 have cB:(v:Int) / 4294967296=0:=by omega
 have HV:=Kh (show sg (decide (n<0)) v=n by rw[<-hv];exact Tf n);have bB:=Kh (show v=0->n=0 by omega);have cF:=Kh cG;clear cG;by_cases hneg:n<0
 ·have e1:IntKind.u64.wrap n=n+18446744073709551616:=by rw[IntKind.wrap_u64];omega
  have e2:IntKind.u64.wrap (-(n+18446744073709551616))=(v:Nat):=by rw[IntKind.wrap_u64];omega
  have e3:IntKind.u64.wrap (-n)=(v:Nat):=by rw[IntKind.wrap_u64];omega
  have hd:decide (n<0)=true:=decide_eq_true hneg;rw[hd]at HV;have cI:v≠0:=by omega
  clear h1 h2 hv;go_enter func110,ntmps110
  go_wp2;obtain⟨w0,aN,J,M,E⟩:=bx2 w #[.bool false,.slice none 0 0] 84 #[.bool true,.slice none 0 0] 84;rw[aN];have aD:=Kh (show lD true v w.heap.size w (.int .u64 (v:Nat)) w0 from⟨J,E,J.lt,.inl ⟨rfl,M⟩⟩);clear aN J M E;go_loopw [3] (λu wr=>lD true v w.heap.size w u wr) (λu _=>(intOf u).toNat)
  case atStart=>exact aD.1
  case round=>
   obtain⟨J,E,hlt,⟨rfl,M⟩ |⟨rfl,Z,p,c,M,hd⟩⟩:=hrel
   ·clear aD
    by_cases Z:v=0
    ·exact absurd Z cI
    ·have a0:=M.at_ 0 rfl
     have a1:=M.at_ 1 rfl;have U:=Kh J;have I:=Kh M;have h:=Kh E;have eG:(v:Int) > 0:=by omega
     clear J M E;go_wp2_with (at_builtin;refine Ho rfl (.tmp 17) (.tmp 20) _ 200 rfl Z4 Z3 rfl (by decide) wr.heap.size 0 (.slice none 0 0) [] [.int .u32 (v:Nat)] rfl (World.ownsRow_nil _ _ _ _) rfl rfl (eW v) (by omega) (by omega) (nL _) ?_;intro v' w' O V cA;obtain⟨p9,c9,rfl,aK⟩:=Dg.of_own (n:=1) (a:=λ_=>v) O (λ_ _=>cF.1);have U:=Kh (U.1.grown_ V (by simp[Value.ownBlock]));have I:=Kh (I.1.grown_ V (by simp[Value.ownBlock]));have h:=Kh (h.1.grown V h.1.size (by intro k hk;simp[Value.ownBlock]at hk));have b0:w'.cell? ⟨w.heap.size+1,0,none⟩=some (.bool true):=I.1.at_ 0 rfl;have b1:w'.cell? ⟨w.heap.size+1,1,none⟩=some (.slice none 0 0):=I.1.at_ 1 rfl;have f1:w'.frozen? ⟨w.heap.size+1,1,none⟩=false:=I.1.free_ 1;have bE:=Kh aK;clear O V cA aK)
     go_roundw
     case rel=>
      refine⟨U.1.far_ (by simp) _,h.1.setCell (by simp) _,nN U.1.lt (by simp),.inr ⟨rfl,Z,p9,c9,I.1.set_ 1 _,?_⟩⟩;exact bE.1.put (Sts.box I.1) 1 _
     case measure=>simp[intOf];omega
   ·have a0:=M.at_ 0 rfl
    have a1:=M.at_ 1 rfl;have z0:=J.at_ 0 rfl;have z1:=J.at_ 1 rfl;have f0:=J.free_ 0;have f1:=J.free_ 1;have h:=Kh E
    have aX:Zs wr true p 1 c n:=by
     have h1:=Dg.norm hd (.inr Z);rw[show vf (λ_=>v) 1=v from by simp[vf]]at h1;have h2:=Ts (s:=true) (t:=true) h1.2 h1.1 (by simp);rwa [HV.1]at h2
    have HZ:=Kh (aX.put2 (Sts.box J) 0 1 (.bool true) (.slice p 1 c) (NotInt.bool _));clear J M E hlt cC cB HV bB hd aX aD;go_wp2;refine bodyPost_ret (by simp[results,results110,go_sem,z0,z1];try rfl) rfl ?_;exact⟨⟨_,p,1,c,rfl,HZ.1⟩,(h.1.setCell (nL _) _).setCell (nL _) _⟩
 ·have e1:IntKind.u64.wrap n=(v:Nat):=by rw[IntKind.wrap_u64];omega
  have hd:decide (n<0)=false:=decide_eq_false hneg;rw[hd]at HV;clear h1 h2 hv;go_enter func110,ntmps110
  go_wp2;obtain⟨w0,aN,J,M,E⟩:=bx2 w #[.bool false,.slice none 0 0] 84 #[.bool false,.slice none 0 0] 84;rw[aN];have aD:=Kh (show lD false v w.heap.size w (.int .u64 (v:Nat)) w0 from⟨J,E,J.lt,.inl ⟨rfl,M⟩⟩);clear aN J M E;go_loopw [3] (λu wr=>lD false v w.heap.size w u wr) (λu _=>(intOf u).toNat)
  case atStart=>exact aD.1
  case round=>
   obtain⟨J,E,hlt,⟨rfl,M⟩ |⟨rfl,Z,p,c,M,hd⟩⟩:=hrel
   ·clear aD
    by_cases Z:v=0
    ·subst Z
     obtain rfl:n=0:=bB.1 rfl;have a0:=M.at_ 0 rfl;have a1:=M.at_ 1 rfl;have z0:=J.at_ 0 rfl;have z1:=J.at_ 1 rfl;have f0:=J.free_ 0;have f1:=J.free_ 1;have h:=Kh E;clear J M E hlt cC cB HV bB;go_wp2;refine bodyPost_ret (by simp[results,results110,go_sem,z0,z1];try rfl) rfl ?_;exact⟨⟨_,none,0,0,rfl,rfl,rfl,Nm.nil _⟩,(h.1.setCell (nL _) _).setCell (nL _) _⟩
    ·have a0:=M.at_ 0 rfl
     have a1:=M.at_ 1 rfl;have U:=Kh J;have I:=Kh M;have h:=Kh E;have eG:(v:Int) > 0:=by omega
     clear J M E;go_wp2_with (at_builtin;refine Ho rfl (.tmp 17) (.tmp 20) _ 200 rfl Z4 Z3 rfl (by decide) wr.heap.size 0 (.slice none 0 0) [] [.int .u32 (v:Nat)] rfl (World.ownsRow_nil _ _ _ _) rfl rfl (eW v) (by omega) (by omega) (nL _) ?_;intro v' w' O V cA;obtain⟨p9,c9,rfl,aK⟩:=Dg.of_own (n:=1) (a:=λ_=>v) O (λ_ _=>cF.1);have U:=Kh (U.1.grown_ V (by simp[Value.ownBlock]));have I:=Kh (I.1.grown_ V (by simp[Value.ownBlock]));have h:=Kh (h.1.grown V h.1.size (by intro k hk;simp[Value.ownBlock]at hk));have b0:w'.cell? ⟨w.heap.size+1,0,none⟩=some (.bool false):=I.1.at_ 0 rfl;have b1:w'.cell? ⟨w.heap.size+1,1,none⟩=some (.slice none 0 0):=I.1.at_ 1 rfl;have f1:w'.frozen? ⟨w.heap.size+1,1,none⟩=false:=I.1.free_ 1;have bE:=Kh aK;clear O V cA aK)
     go_roundw
     case rel=>
      refine⟨U.1.far_ (by simp) _,h.1.setCell (by simp) _,nN U.1.lt (by simp),.inr ⟨rfl,Z,p9,c9,I.1.set_ 1 _,?_⟩⟩;exact bE.1.put (Sts.box I.1) 1 _
     case measure=>simp[intOf];omega
   ·have a0:=M.at_ 0 rfl
    have a1:=M.at_ 1 rfl;have z0:=J.at_ 0 rfl;have z1:=J.at_ 1 rfl;have f0:=J.free_ 0;have f1:=J.free_ 1;have h:=Kh E
    have aX:Zs wr false p 1 c n:=by
     have h1:=Dg.norm hd (.inr Z);rw[show vf (λ_=>v) 1=v from by simp[vf]]at h1;have h2:=Ts (s:=false) (t:=false) h1.2 h1.1 (by simp);rwa [HV.1]at h2
    have HZ:=Kh (aX.put2 (Sts.box J) 0 1 (.bool false) (.slice p 1 c) (NotInt.bool _));clear J M E hlt cC cB HV bB hd aX aD;go_wp2;refine bodyPost_ret (by simp[results,results110,go_sem,z0,z1];try rfl) rfl ?_;exact⟨⟨_,p,1,c,rfl,HZ.1⟩,(h.1.setCell (nL _) _).setCell (nL _) _⟩
theorem nE (n:Int) (w:World) (h1:-2147483648<=n) (h2:n<=2147483648):
  Calls prog 78 #[.int .i64 n] w λe w'=>F6 w' e (n:Rat)/\Below w.heap.size w w':=by
 have Z:=Kh (λw1=>lF n w1 h1 h2);have h:=Kh (λw1=>lF 1 w1 (by omega) (by omega));clear h1 h2;go_enter func78,ntmps78
 go_wp2_with fail
 obtain⟨w0,aX,X0,M⟩:=bx1 w #[.bool false,.slice none 0 0,.bool false,.slice none 0 0] 86;rw[aX];have aN:w.heap.size<=w0.heap.size:=M.size;clear aX;refine(Z.1 w0).mono ?_;rintro e w1 ⟨⟨s2,p2,n2,e2,rfl,bA⟩,O⟩;have HA:=Kh bA;have U:=Kh (M.trans (O.mono aN));have V:=Kh (X0.below_ O X0.lt);clear bA M O X0 aN Z;go_wp2_with fail
 refine(h.1 w1).mono ?_;rintro e w4 ⟨⟨s3,p3,n3,e3,rfl,bB⟩,I⟩
 have HQ:=Kh (show Qs w4 s2 p2 n2 e2 s3 p3 n3 e3 (n:Rat)by
  unfold Qs;rw[Rat.num_intCast,Rat.den_intCast];exact⟨HA.1.keep I,bB⟩)
 have E:=Kh (bk V I);have HB:=bt U I;have HG:=Kh (rfl:(n:Rat)=(n:Rat));clear bB I h U V HA;have r0:=E.1.at_ 0 rfl;have r1:=E.1.at_ 1 rfl;have r2:=E.1.at_ 2 rfl;have r3:=E.1.at_ 3 rfl;have f0:=E.1.free_ 0;have f1:=E.1.free_ 1;have f2:=E.1.free_ 2;have f3:=E.1.free_ 3;obtain⟨w9,J⟩:∃w9,(((w4.setCell ⟨w.heap.size,0,none⟩ (.bool s2)).setCell ⟨w.heap.size,1,none⟩ (.slice p2 n2 e2)).setCell ⟨w.heap.size,2,none⟩ (.bool s3)).setCell ⟨w.heap.size,3,none⟩ (.slice p3 n3 e3)=w9:=⟨_,rfl⟩
 obtain⟨E0,E1,E2,E3,aK⟩:=Cc E.1 HQ.1 J;have aD:Below w.heap.size w w9:=by rw[<-J];exact Au HB.1 (by omega) _ _ _ _
 have cG:=Kh J;have cD:=Kh (And.intro E0 (And.intro E1 (And.intro E2 E3)));have cF:=Kh aK;have cC:=Kh aD;clear E0 E1 E2 E3 aK aD J HQ HB E;go_wp2;try rw[cG.1]
 obtain⟨E0,E1,E2,E3⟩:=cD.1;try simp only[Exit.inBlock,Exit.then]
 refine bodyPost_ret (by simp[results,results78,go_sem,E0,E1,E2,E3];try rfl) rfl ?_;exact⟨⟨s2,p2,n2,e2,s3,p3,n3,e3,rfl,cF.1⟩,cC.1⟩
theorem Uf (s:Bool) (p:Option Addr) (n c:Nat) (t:Bool) (q:Option Addr) (m d:Nat) (x:Rat) (s':Bool) (p':Option Addr) (n' c':Nat) (t':Bool) (q':Option Addr) (m' d':Nat) (y:Rat) (w:World) (h:Qs w s p n c t q m d x) (h':Qs w s' p' n' c' t' q' m' d' y) (hx:hq x<=35184372088830):
  Calls prog 72 #[.agg #[.bool s,.slice p n c,.bool t,.slice q m d],.agg #[.bool s',.slice p' n' c',.bool t',.slice q' m' d']] w λe w'=>e=.returned (.bool (decide (x=y)))/\Below w.heap.size w w':=by
 obtain⟨r,hr⟩:∃r,decide (x=y)=r:=⟨_,rfl⟩
 rw[hr];have HR:=Kh hr;have HS:=Kh h.sizes;have H1:=Kh (λU (V:Below w.heap.size w U)=>Lt s p n c x.num s' p' n' c' y.num U (h.1.keep V) (h'.1.keep V) (by have:=h.sizes;omega));have H2:=Kh (λU (V:Below w.heap.size w U)=>Lt t q m d x.den t' q' m' d' y.den U (h.2.keep V) (h'.2.keep V) (by have:=h.sizes;omega));clear h h' hx hr;go_enter func72,ntmps72
 go_wp2_with fail
 obtain⟨w0,aD,X0,X1,O⟩:=bx2 w #[.bool s,.slice p n c,.bool t,.slice q m d] 86 #[.bool s',.slice p' n' c',.bool t',.slice q' m' d'] 86;rw[aD];have cI:w.heap.size<=w0.heap.size:=O.size;clear aD;have a0:=X0.at_ 0 rfl;have a1:=X0.at_ 1 rfl;have b0:=X1.at_ 0 rfl;have b1:=X1.at_ 1 rfl;have I:=Kh X0;have J:=Kh X1;have HB:=Kh O;clear X0 X1 O cI;refine(H1.1 w0 HB.1).mono ?_;rintro e U ⟨rfl,M⟩;have E:=bt HB M;replace I:=Kh (bk I M);replace J:=Kh (bk J M);have a2:=I.1.at_ 2 rfl;have a3:=I.1.at_ 3 rfl;have b2:=J.1.at_ 2 rfl;have b3:=J.1.at_ 3 rfl;clear M a0 a1 b0 b1 HB H1;by_cases h1:x.num=y.num
 ·rw[decide_eq_true h1]
  go_wp2_with fail
  refine(H2.1 U E.1).mono ?_;rintro e w2 ⟨rfl,Z⟩;have cD:=bt E Z;obtain⟨z,hz⟩:∃z,decide ((x.den:Int)=y.den)=z:=⟨_,rfl⟩
  have HE:=Kh (show z=r by
   rw[<-HR.1,<-hz,decide_eq_decide];exact⟨λh=>Rat.ext h1 (by omega),λh=>by rw[h]⟩)
  rw[hz];clear Z H2 E hz h1 HR;go_wp2;go_ret;exact⟨Cx HE.1,cD.1⟩
 ·rw[decide_eq_false h1]
  have HE:=Kh (show false=r by
   rw[<-HR.1];exact(decide_eq_false λh=>h1 (by rw[h])).symm)
  clear H2 h1 HR;go_wp2;go_ret;exact⟨Cx HE.1,E.1⟩
theorem Lc (v1 v2:Value) (n:Nat) (f:Nat->Rat) (w:World) (V:QL (λj=>IsQ (f j)) w v1 n) (Z:QL (λj=>IsQ (f j)) w v2 n) (hn:n<=1000000) (hf:∀j,j<n->hq (f j)<=35184372088830):
  Calls prog 27 #[v1,v2] w λe w'=>e=.returned (.bool true)/\Below w.heap.size w w':=by
 rcases Nat.eq_zero_or_pos n with rfl|cM
 ·have e1:∃a c,v1=.slice a 0 c:=by
   rcases V with⟨_,h⟩ |⟨_,_,_,e,_⟩
   ·exact h
   ·exact⟨_,_,e⟩
  have e2:∃a c,v2=.slice a 0 c:=by
   rcases Z with⟨_,h⟩ |⟨_,_,_,e,_⟩
   ·exact h
   ·exact⟨_,_,e⟩
  obtain⟨a1,c1,rfl⟩:=e1;obtain⟨a2,c2,rfl⟩:=e2;clear V Z hf hn;go_enter func27,ntmps27
  go_wp2;go_loopw [5] (λi wr=>i=.int .i64 0/\wr=w) (λ_ _=>0)
  case atStart=>exact⟨rfl,rfl⟩
  case round=>
   obtain⟨rfl,rfl⟩:=hrel;go_wp2;go_ret;exact⟨rfl,Below.refl _ _⟩
 ·obtain⟨O,o1,l1,rfl,gF,r1⟩:=V.resolve_left (λh=>by omega)
  obtain⟨U,o2,l2,rfl,gI,r2⟩:=Z.resolve_left (λh=>by omega);have R1:=Kh r1;have R2:=Kh r2;have HF:=Kh hf;clear V Z r1 r2 hf;go_enter func27,ntmps27
  go_wp2;go_loopw [5] (λi wr=>∃k:Nat,k<=n/\i=.int .i64 k/\Below w.heap.size w wr) (λi _=>n - (intOf i).toNat)
  case atStart=>exact⟨0,Nat.zero_le _,rfl,Below.refl _ _⟩
  case round=>
   obtain⟨k,hk,rfl,I⟩:=hrel;by_cases hlt:k<n
   ·have M:=Kh I
    obtain⟨s,p,i1,c,t,q,m,d,a0,a1,a2,a3,hx⟩:=(R1.1 k hlt).keep (IsQ.solid _) I;obtain⟨s',p',J,c',t',q',m',d',b0,b1,b2,b3,hy⟩:=(R2.1 k hlt).keep (IsQ.solid _) I;have HC:=Kh (λE (h:Below wr.heap.size wr E)=>Uf s p i1 c t q m d (f k) s' p' J c' t' q' m' d' (f k) E (Qs.keep hx h) (Qs.keep hy h) (HF.1 k hlt));simp only[decide_true]at HC;clear hx hy I;go_upto_region 6 with(fail)
    have bB:=D8 (Below.refl _ wr).drew ⟨a0,a1,a2,a3,b0,b1,b2,b3,Below.refl _ _,Below.size (show Below wr.heap.size wr wr from Below.refl _ _)⟩;clear a0 a1 a2 a3 b0 b1 b2 b3;have M1:True:=trivial
    go_region_held3 (λE=>E.cell? ⟨O,o1+k*4,none⟩=some (.bool s)/\E.cell? ⟨O,o1+k*4+1,none⟩=some (.slice p i1 c)/\E.cell? ⟨O,o1+k*4+2,none⟩=some (.bool t)/\E.cell? ⟨O,o1+k*4+3,none⟩=some (.slice q m d)/\E.cell? ⟨U,o2+k*4,none⟩=some (.bool s')/\E.cell? ⟨U,o2+k*4+1,none⟩=some (.slice p' J c')/\E.cell? ⟨U,o2+k*4+2,none⟩=some (.bool t')/\E.cell? ⟨U,o2+k*4+3,none⟩=some (.slice q' m' d')/\Below wr.heap.size wr E/\wr.heap.size<=E.heap.size)
     (first|with_reducible exact bB |(refine D8 (by with_reducible assumption) ?_;assumption))
     (first
      |(go_at_call 72;refine(HC.1 _ (C3 (by with_reducible assumption))).mono ?_;rintro e w2 ⟨rfl,bC⟩;have aN:=Kh (Below.trans M.1 (Below.mono (Below.trans (C3 (by with_reducible assumption)) (Below.mono bC (Below.size (C3 (by with_reducible assumption))))) M.1.size))))
    go_wp2;go_roundw
    case rel=>exact⟨k+1,by omega,by go_num,aN.1⟩
    case measure=>simp[intOf];omega
   ·obtain rfl:k=n:=by omega
    have M:=Kh I;clear I;go_wp2;go_ret;exact⟨rfl,M.1⟩
theorem F4:(prog.info? 86).map (λi=>(i.zero,i.size,i.bytes))=some (some (.agg #[.bool false,.slice none 0 0,.bool false,.slice none 0 0]),4,64):=by kernel_rfl
theorem iI (s t:Bool) (p q:Option Addr) (n c m d:Nat):∀u∈[Value.bool s,.slice p n c,.bool t,.slice q m d],u.oneCell'=true:=by
 intro u E;simp at E;rcases E with rfl|rfl|rfl|rfl <;> rfl
theorem mQ (s t:Bool) (p q:Option Addr) (n c m d:Nat):∀u∈[Value.bool s,.slice p n c,.bool t,.slice q m d],NotInt u:=by
 intro u E;simp at E;rcases E with rfl|rfl|rfl|rfl <;> first|exact NotInt.bool _|exact NotInt.slice _ _ _
theorem kT:∀u∈(Value.agg #[.bool false,.slice none 0 0,.bool false,.slice none 0 0]).cells.toList,NotInt u:=by
 intro u E;simp[Value.cells]at E;rcases E with rfl|rfl|rfl|rfl <;> first|exact NotInt.bool _|exact NotInt.slice _ _ _
theorem bD (n:Nat) (w:World) (hn:n<=1000000):
  Calls prog 38 #[.int .i64 n] w λe w'=>(∃v,e=.returned v/\OwnQ (λ_=>IsQ 0) w' w.heap.size v n)/\Below w.heap.size w w':=by
 have HN:=Kh (OwnQ.nil (λ_=>IsQ 0) w w.heap.size);go_enter func38,ntmps38
 go_wp2;go_loopw [3,4] (λv i wr=>∃k:Nat,k<=n/\i=.int .i64 k/\OwnQ (λ_=>IsQ 0) wr w.heap.size v k/\Below w.heap.size w wr) (λ_ i _=>n - (intOf i).toNat)
 case atStart=>exact⟨0,Nat.zero_le _,rfl,HN.1,Below.refl _ _⟩
 case round=>
  obtain⟨k,hk,rfl,ho,hb⟩:=hrel;have Z:=Kh ho;have O:=Kh hb;clear ho hb HN;by_cases hlt:k<n
  ·go_wp2_with fail
   refine(nE 0 wr (by omega) (by omega)).mono ?_;rintro e w2 ⟨⟨s1,p1,n1,c1,t1,q1,m1,d1,rfl,hq⟩,J⟩;obtain⟨xs,hK,hX⟩:=Z.1.keep (λ_=>IsQ.solid _) J;have V:=Kh hK;have HX:=Kh hX;have HQ:=Kh (show IsQ 0 w2 s1 p1 n1 c1 t1 q1 m1 d1 from hq);have I:=bt O J;clear hK hX hq J Z O;go_wp2_with (at_builtin;refine Bk NotInt rfl (.tmp 10) (.tmp 12) _ 86 rfl underlying30 F4 rfl (by decide) w.heap.size k u3 xs [.bool s1,.slice p1 n1 c1,.bool t1,.slice q1 m1 d1] rfl V.1 rfl rfl (iI _ _ _ _ _ _ _ _) (by omega) (by omega) I.1.size (mQ _ _ _ _ _ _ _ _) kT ?_;intro v' w' E M aD;have h:=Kh (OwnQ.push (W:=_) (λ_=>IsQ.solid _) V.1 HX.1 HQ.1 E M);have U:=Kh (At I.1 V.1.1 M (nL _) I.1.size);clear E M aD)
   go_roundw
   case rel=>exact⟨k+1,by omega,by go_num,h.1,U.1⟩
   case measure=>simp[intOf];omega
  ·obtain rfl:k=n:=by omega
   go_wp2;go_ret;exact⟨⟨_,rfl,Z.1⟩,O.1⟩
def ZE (z:Int) (w:World) (g i:Nat):Prop:=∃s p n c,w.cell? ⟨g,i,none⟩=some (.bool s)/\w.cell? ⟨g,i+1,none⟩=some (.slice p n c)/\Zs w s p n c z
theorem ZE.keep {z:Int} {w w':World} {g i:Nat} (h:ZE z w g i) (E:Below w.heap.size w w'):ZE z w' g i:=by
 obtain⟨s,p,n,c,J,M,O⟩:=h;have I:∀j v,w.cell? ⟨g,j,none⟩=some v->w'.cell? ⟨g,j,none⟩=some v:=λj v e=>(E.cell (p:=⟨g,j,none⟩) (World.block_lt_of_cell? w ⟨g,j,none⟩ e)).trans e
 exact⟨s,p,n,c,I _ _ J,I _ _ M,O.i32 (I32.below E)⟩
def ZL (f:Nat->Int) (w:World) (v:Value) (n:Nat):Prop:=(n=0/\∃a c,v=.slice a 0 c)∨∃g o cap,v=.slice (some ⟨g,o,none⟩) n cap/\g<w.heap.size/\∀j,j<n->ZE (f j) w g (o+j*2)
theorem ZL.keep {f:Nat->Int} {w w':World} {v:Value} {n:Nat} (h:ZL f w v n) (E:Below w.heap.size w w'):ZL f w' v n:=by
 rcases h with h |⟨g,o,cap,e,hg,I⟩
 ·exact .inl h
 ·exact .inr ⟨g,o,cap,e,nN hg E.size,λj J=>(I j J).keep E⟩
structure ZRow (f:Nat->Int) (w:World) (g N k:Nat):Prop where
 sts:Sts w g
 free:∀i,i<N*2->w.frozen? ⟨g,i,none⟩=false
 has:∀i,i<N*2->(w.cell? ⟨g,i,none⟩).isSome=true
 val:∀j,j<k->ZE (f j) w g (j*2)
theorem ZRow.keep {f:Nat->Int} {w w':World} {g N k:Nat} (h:ZRow f w g N k) (E:Below w.heap.size w w'):ZRow f w' g N k:=
 ⟨h.sts.next E,λi I=>Ab E (h.has i I) (h.free i I),λi I=>by rw[E.cell (p:=⟨g,i,none⟩) h.sts.1];exact h.has i I,λj J=>(h.val j J).keep E⟩
theorem ZRow.congr {f f':Nat->Int} {w:World} {g N k:Nat} (h:ZRow f w g N k) (e:∀j,j<k->f j=f' j):ZRow f' w g N k:=⟨h.sts,h.free,h.has,λj E=>by rw[<-e j E];exact h.val j E⟩
theorem ZRow.set {f:Nat->Int} {w:World} {g N k k':Nat} (h:ZRow f w g N k) (j:Nat) (hj:j<N) (f':Nat->Int) (hk:∀i,i<k'->i≠j->i<k/\f i=f' i)
  {s:Bool} {p:Option Addr} {n c:Nat} (hq:Zs w s p n c (f' j)):
  ZRow f' ((w.setCell ⟨g,j*2,none⟩ (.bool s)).setCell ⟨g,j*2+1,none⟩ (.slice p n c)) g N k':=by
 have I:=I32.put2 h.sts (j*2) (j*2+1) (.bool s) (.slice p n c) (NotInt.bool _);have s1:=h.sts.put ⟨g,j*2,none⟩ (.bool s) (NotInt.bool _);have s2:=s1.put ⟨g,j*2+1,none⟩ (.slice p n c) (NotInt.slice _ _ _);refine⟨s2,λi J=>Aw (Aw (h.free i J)),λi J=>Ak (Ak (h.has i J)),λi J=>?_⟩;by_cases hij:i=j
 ·subst hij
  have c0:=h.has (i*2) (by omega);have c1:=Ak (R:=g) (i:=i*2) (u:=.bool s) (h.has (i*2+1) (by omega));refine⟨s,p,n,c,?_,?_,hq.i32 I⟩
  ·rw[World.cell?_setCell_other _ _ _ _ (by simp),World.cell?_setCell_same' _ _ _ c0]
  ·rw[World.cell?_setCell_same' _ _ _ c1]
 ·obtain⟨M,e⟩:=hk i J hij
  obtain⟨s',p',n',O,U,V,Z⟩:=h.val i M;rw[<-e]
  have E:∀(x:Nat) (v:Value),i*2<=x->x<i*2+2->w.cell? ⟨g,x,none⟩=some v->((w.setCell ⟨g,j*2,none⟩ (.bool s)).setCell ⟨g,j*2+1,none⟩ (.slice p n c)).cell? ⟨g,x,none⟩=some v:=by
   intro x v aN aX hv;rw[World.cell?_setCell_other _ _ _ _ (by simp <;> omega),World.cell?_setCell_other _ _ _ _ (by simp <;> omega)];exact hv
  exact⟨s',p',n',O,E _ _ (by omega) (by omega) U,E _ _ (by omega) (by omega) V,Z.i32 I⟩
def ZX (z:Int) (w:World) (xs:List Value) (i:Nat):Prop:=∃s p n c,xs[i]?=some (.bool s)/\xs[i+1]?=some (.slice p n c)/\Zs w s p n c z
def OwnZ (f:Nat->Int) (w:World) (B:Nat) (v:Value) (n:Nat):Prop:=∃xs,OwnK NotInt w B 84 2 v n xs/\∀j,j<n->ZX (f j) w xs (j*2)
theorem OwnZ.nil (f:Nat->Int) (w:World) (B:Nat):OwnZ f w B (.slice none 0 0) 0:=⟨[],OwnK.nil _ _ _ _ _,λ_ E=>absurd E (Nat.not_lt_zero _)⟩
theorem ZX.i32 {z:Int} {w w':World} (h:I32 w w') {E:List Value} {i:Nat} (O:ZX z w E i):ZX z w' E i:=by
 obtain⟨s,p,n,c,I,J,M⟩:=O;exact⟨s,p,n,c,I,J,M.i32 h⟩
theorem OwnZ.keep {f:Nat->Int} {w w':World} {B n:Nat} {v:Value} (h:OwnZ f w B v n) (E:Below w.heap.size w w'):OwnZ f w' B v n:=by
 obtain⟨O,I,J⟩:=h;exact⟨O,I.keep E,λj M=>(J j M).i32 (I32.below E)⟩
theorem ZX.app {z:Int} {w:World} {E M:List Value} {i:Nat} (h:ZX z w E i):ZX z w (E++M) i:=by
 obtain⟨s,p,n,c,O,U,V⟩:=h
 have J:∀(j:Nat) (v:Value),E[j]?=some v->(E++M)[j]?=some v:=by
  intro j v e;rw[List.getElem?_append_left]
  ·exact e
  ·rcases Nat.lt_or_ge j E.length with hlt|I
   ·exact hlt
   ·rw[List.getElem?_eq_none I]at e;cases e
 exact⟨s,p,n,c,J _ _ O,J _ _ U,V⟩
theorem OwnZ.push {f:Nat->Int} {W w':World} {B n:Nat} {v O:Value} {I:List Value} (J:OwnK NotInt W B 84 2 v n I) (U:∀j,j<n->ZX (f j) W I (j*2))
  {s:Bool} {p:Option Addr} {k c:Nat} (hq:Zs W s p k c (f n)) (V:OwnK NotInt w' B 84 2 O (n+1) (I++[.bool s,.slice p k c])) (hg:W.grownBy w' v.ownBlock):OwnZ f w' B O (n+1):=by
 have E:=I32.grown (K:=NotInt) (λx=>Fx x) J.2 hg;refine⟨_,V,λj Z=>?_⟩;by_cases hjn:j<n
 ·exact((U j hjn).i32 E).app
 ·obtain rfl:j=n:=by omega
  have M:I.length=j*2:=J.1.1;refine⟨s,p,k,c,?_,?_,hq.i32 E⟩
  ·rw[List.getElem?_append_right (by omega),M,show j*2 - j*2=0 by omega];rfl
  ·rw[List.getElem?_append_right (by omega),M,show j*2+1 - j*2=1 by omega];rfl
theorem OwnZ.row {f:Nat->Int} {w:World} {B n:Nat} {v:Value} (h:OwnZ f w B v n):(n=0/\v=.slice none 0 0)∨∃g cap,v=.slice (some ⟨g,0,none⟩) n cap/\B<=g/\ZRow f w g n n:=by
 obtain⟨J,E,V⟩:=h;rcases Cb E.1 with⟨rfl,rfl,_⟩ |⟨g,cap,rfl,hB,hg,hc⟩
 ·exact .inl ⟨rfl,rfl⟩
 ·right
  have hl:J.length=n*2:=E.1.1;have hs:=E.2 g rfl;refine⟨g,cap,rfl,hB,⟨hs,?_,?_,?_⟩⟩
  ·intro i hi
   rcases Eh E.1 with I |⟨g',cs,I,_,Z⟩
   ·simp[Value.ownBlock]at I
   ·simp[Value.ownBlock]at I
    subst I;exact Z.free_ i
  ·intro i hi
   rw[Ai E.1 (List.getElem?_eq_getElem (by omega:i<J.length))];rfl
  ·intro j hj
   obtain⟨s,p,n',c,M,O,U⟩:=V j hj;exact⟨s,p,n',c,Ai E.1 M,Ai E.1 O,U⟩
theorem Wa:(prog.info? 84).map (λi=>(i.zero,i.size,i.bytes))=some (some (.agg #[.bool false,.slice none 0 0]),2,32):=by kernel_rfl
theorem mR:∀u∈(Value.agg #[.bool false,.slice none 0 0]).cells.toList,NotInt u:=by
 intro u E;simp[Value.cells]at E;rcases E with rfl|rfl <;> first|exact NotInt.bool _|exact NotInt.slice _ _ _
end
def lin (a b:Int) (p:Nat->Int):Nat->Int:=λj=>(if 0<j then a*p (j - 1)else 0)+b*p j
def mv (i:Nat) (a b c d:Int):Nat->Nat->Int
 | 0=>λj=>if j=0 then 1 else 0
 | k+1=>if k<i then lin a b (mv i a b c d k)else lin c d (mv i a b c d k)
theorem Jc (i:Nat) (a b c d:Int) (k j:Nat) (h:k<j):mv i a b c d k j=0:=by
 induction k generalizing j with
 | zero=>show(if j=0 then(1:Int)else 0)=0;rw[if_neg (by omega)]
 | succ k ih=>
  rw[mv];split <;>(unfold lin;rw[ih j (by omega),ih (j - 1) (by omega)];simp)
theorem G6:nd 1=1:=by
 have E:=Bs.2 (show(1:Nat)≠0 by decide);have I:=(Bf (v:=1) (k:=1)).2 (by decide);omega
theorem Pe (a b:Int) (p:Nat->Int) (K:Nat) (I:nd a.natAbs<=2) (J:nd b.natAbs<=2) (E:∀j,nd (p j).natAbs<=K) (j:Nat):nd (lin a b p j).natAbs<=K+3:=by
 unfold lin;refine nM (Gk _ _ (K:=K+2) ?_ ?_) (by omega)
 ·split
  ·rw[Int.natAbs_mul];have:=Cf a.natAbs (p (j - 1)).natAbs;have:=E (j - 1);omega
  ·rw[show(0:Int).natAbs=0 from rfl,Cr];omega
 ·rw[Int.natAbs_mul];have:=Cf b.natAbs (p j).natAbs;have:=E j;omega
theorem Ss (i:Nat) (a b c d:Int) (E:nd a.natAbs<=2) (I:nd b.natAbs<=2) (J:nd c.natAbs<=2) (M:nd d.natAbs<=2) (k j:Nat):nd (mv i a b c d k j).natAbs<=1+3*k:=by
 induction k generalizing j with
 | zero=>
  show nd (if j=0 then(1:Int)else 0).natAbs<=1;split
  ·exact Nat.le_of_eq G6
  ·rw[show(0:Int).natAbs=0 from rfl,Cr];omega
 | succ k ih=>
  rw[mv];split
  ·exact Pe a b _ _ E I ih j
  ·exact Pe c d _ _ J M ih j
def sumQ (f:Nat->Rat):Nat->Rat
 | 0=>0
 | n+1=>sumQ f n+f n
def subst (q:Nat->Rat) (w:Nat) (a b c d:Int) (n j:Nat):Rat:=sumQ (λi=>q i*(mv i a b c d w j:Int)) n
theorem Dw (z:Int):hq (z:Rat)=max (nd z.natAbs) 1:=by
 unfold hq;rw[Rat.num_intCast,Rat.den_intCast,G6]
theorem C8 (f:Nat->Rat) (K:Nat) (n:Nat) (h:∀i,i<n->hq (f i)<=K):hq (sumQ f n)<=1+n*(K+1):=by
 induction n with
 | zero=>show hq (0:Rat)<=_;simp[hq,Cr,G6]
 | succ n ih=>
  rw[sumQ,Nat.succ_mul];have E:=ih (λi M=>h i (by omega));have I:=H8 (sumQ f n) (f n);have J:=h n (by omega);omega
theorem Re (q:Rat) (a b:Int) (p:Nat->Int) (j:Nat):q*(lin a b p j:Int)=(if 0<j then(a:Rat)*(q*(p (j - 1):Int))else 0)+(b:Rat)*(q*(p j:Int)):=by
 unfold lin;split <;> simp <;> grind
end Go.Proofs.YtenlbhlllgppmaaGreatDoor
