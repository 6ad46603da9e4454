/- Contracts of halfplanebase.SameInt and halfplaneref01.Of. -/
import Derived.Test.YtenlbhlllgppmaaGreatDoorA13
set_option maxRecDepth 100000
set_option maxHeartbeats 8000000
namespace Go.Proofs.YtenlbhlllgppmaaGreatDoor
section
open Go.RowKit Tryz
theorem Lq (s:Bool) (p:Option Addr) (n c:Nat) (x:Int) (t:Bool) (q:Option Addr) (m d:Nat) (y:Int) (w:World) (h:Zs w s p n c x) (h':Zs w t q m d y) (hn:n<=35184372088830):
  Calls prog 123 #[.agg #[.bool s,.slice p n c],.agg #[.bool t,.slice q m d]] w λe w'=>e=.returned (.bool (decide (x=y)))/\Below w.heap.size w w':=by
 obtain⟨r,hr⟩:∃r,decide (x=y)=r:=⟨_,rfl⟩
 rw[hr];obtain⟨hs,Y,J⟩:=h;obtain⟨ht,V,M⟩:=h';unfold Nm at J M;rw[Y]at J;rw[V]at M;have HR:=Kh hr;have HS:=Kh hs;have HT:=Kh ht;have HN:=Kh Y;have HM:=Kh V;have HX:=Kh J;have HY:=Kh M;have I:=Kh (((Below.refl w.heap.size w).alloc (mG _) (.cells #[.bool s,.slice p n c] 84)).alloc (by simp) (.cells #[.bool t,.slice q m d] 84));clear hr hs ht Y V J M;by_cases hst:s=t
 ·by_cases J:n=m
  ·subst hst J
   go_enter func123,ntmps123
   go_wp2;obtain⟨w0,O⟩:∃w0,(w.alloc (.cells #[.bool s,.slice p n c] 84)).alloc (.cells #[.bool s,.slice q n d] 84)=w0:=⟨_,rfl⟩
   rw[O];rw[O]at I;obtain⟨X0,X1,_⟩:=Oc w #[.bool s,.slice p n c] 84 #[.bool s,.slice q n d] 84;rw[O]at X0 X1;have a1:=X0.at_ 1 rfl;have b1:=X1.at_ 1 rfl;clear X0 X1 O;go_loopw [5] (λv5 wr=>∃i:Nat,i<=n/\v5=.int .i64 i/\(∀j,j<i->dg x.natAbs j=dg y.natAbs j)/\∃k,wr=w0.drewN k) (λv5 _=>n - (intOf v5).toNat)
   case atStart=>exact⟨0,Nat.zero_le _,rfl,λj hj=>absurd hj (Nat.not_lt_zero _),0,rfl⟩
   case round=>
    obtain⟨i,hi,rfl,aK,mr,rfl⟩:=hrel;have HE:=Kh aK;clear aK;by_cases hin:i<n
    ·obtain⟨g1,o1,rfl,bC,Z⟩:=HX.1.head (by omega)
     obtain⟨g2,o2,rfl,bE,aD⟩:=HY.1.head (by omega);have c1:w0.cell? ⟨g1,o1+i,none⟩=some (.int .u32 (dg x.natAbs i:Nat)):=(I.1.cell (p:=⟨g1,o1+i,none⟩) bC).trans (Z i hin);have c2:w0.cell? ⟨g2,o2+i,none⟩=some (.int .u32 (dg y.natAbs i:Nat)):=(I.1.cell (p:=⟨g2,o2+i,none⟩) bE).trans (aD i hin);obtain⟨u,hu⟩:∃u,dg x.natAbs i=u:=⟨_,rfl⟩
     obtain⟨v,hv⟩:∃v,dg y.natAbs i=v:=⟨_,rfl⟩
     rw[hu]at c1;rw[hv]at c2;have HU:=Kh hu;have HV:=Kh hv;clear Z aD hu hv;by_cases huv:u=v
     ·subst huv
      go_wp2;go_quiet (fail)
      go_wp2;go_roundw
      case rel=>exact⟨i+1,by omega,by go_num,λj hj=>by
       rcases Nat.lt_or_ge j i with h3|h3
       ·exact HE.1 j h3
       ·rw[show j=i from by omega,HU.1,HV.1],_,by first|rfl|rw[Ly]⟩
      case measure=>simp[intOf];omega
     ·have gS:((u:Int) !=(v:Int))=true:=by rw[bne_iff_ne];omega
      have U:=Kh (show false=r by
       rw[<-HR.1];refine(decide_eq_false λh=>huv ?_).symm;rw[<-HU.1,<-HV.1,h])
      clear huv;go_wp2;go_quiet (fail)
      go_wp2;go_ret;exact⟨by rw[<-U.1];rfl,by first|exact Aa (Aa I.1 _) _|exact Aa I.1 _⟩
    ·obtain rfl:i=n:=by omega
     have U:=Kh (show true=r by
      rw[<-HR.1];refine(decide_eq_true ?_).symm;have h1:=eJ HN.1 HM.1 HE.1;have h2:=HS.1;rw[HT.1,decide_eq_decide]at h2;omega)
     go_wp2;go_ret;exact⟨by rw[<-U.1];rfl,Aa I.1 _⟩
  ·subst hst
   have gN:((n:Int) !=(m:Int))=true:=by rw[bne_iff_ne];omega
   have U:=Kh (show false=r by
    rw[<-HR.1];exact(decide_eq_false λh=>J (by rw[<-HN.1,<-HM.1,h])).symm)
   clear J;go_enter func123,ntmps123
   go_wp2;go_ret;exact⟨by rw[<-U.1];rfl,I.1⟩
 ·obtain rfl:t = !s:=by cases s <;> cases t <;> simp_all
  have gP:(s != !s)=true:=by cases s <;> rfl
  have U:=Kh (show false=r by
   rw[<-HR.1];refine(decide_eq_false λh=>?_).symm;have h1:=HS.1;have h2:=HT.1;rw[<-h,<-h1]at h2;cases s <;> cases h2)
  clear hst;go_enter func123,ntmps123
  go_wp2;go_ret;exact⟨by rw[<-U.1];rfl,I.1⟩
def TwoQ (w:World) (A B:Nat) (x y:Rat):Prop:=∃s1 p1 n1 c1 t1 q1 m1 d1 s2 p2 n2 c2 t2 q2 m2 d2,Blk w A 86 #[.bool s1,.slice p1 n1 c1,.bool t1,.slice q1 m1 d1]/\Blk w B 86 #[.bool s2,.slice p2 n2 c2,.bool t2,.slice q2 m2 d2]/\Qs w s1 p1 n1 c1 t1 q1 m1 d1 x/\Qs w s2 p2 n2 c2 t2 q2 m2 d2 y
theorem TwoQ.symm {w:World} {A B:Nat} {x y:Rat} (h:TwoQ w A B x y):TwoQ w B A y x:=by
 obtain⟨s1,p1,n1,c1,t1,q1,Y,U,s2,p2,n2,c2,t2,q2,Z,V,I,J,M,O⟩:=h;exact⟨_,_,_,_,_,_,_,_,_,_,_,_,_,_,_,_,J,I,O,M⟩
def Stk (K:Value->Prop) (w:World) (R:Nat):Prop:=R<w.heap.size/\∀i v,w.cell? ⟨R,i,none⟩=some v->K v
theorem Stk.sts {w:World} {R:Nat} (h:Stk NotInt w R):Sts w R:=h
theorem Stk.next {K:Value->Prop} {w w':World} {R:Nat} (I:Below w.heap.size w w') (h:Stk K w R):Stk K w' R:=
 ⟨mI h.1 I.size,λi v J=>h.2 i v ((I.cell (p:=⟨R,i,none⟩) h.1).symm.trans J)⟩
theorem Stk.of {K:Value->Prop} {w:World} {R:Nat} {t:TypeId} {cs:Array Value} (h:Blk w R t cs) (J:∀v∈cs.toList,K v):Stk K w R:=
 ⟨h.lt,λi v I=>by
  rw[h.cell_ i]at I;exact J v (List.mem_of_getElem? (by simpa using I))⟩
theorem Stk.cells {K:Value->Prop} {w:World} {R:Nat} {t:TypeId} {cs:Array Value} (h:Blk w R t cs) (J:Stk K w R):∀v∈cs.toList,K v:=by
 intro v M;obtain⟨i,I⟩:=List.getElem?_of_mem M;exact J.2 i v (by rw[h.cell_ i];simpa using I)
theorem F7 {z:Array Value} {n:Nat} {v:Value} (h:v∈(Builtin.zeroCells z n).toList):v∈z.toList:=by
 simp only[Builtin.zeroCells,Array.toList_map,List.mem_map,Array.toList_range,List.mem_range]at h;obtain⟨i,O,rfl⟩:=h
 have M:0<z.size:=by
  rcases Nat.eq_zero_or_pos z.size with I|I
  ·rw[I]at O;omega
  ·exact I
 have J:=Nat.mod_lt i M;rw[getElem!_pos z (i % z.size) J];exact Array.getElem_mem_toList J
theorem Ek {P:Program} (K:Value->Prop) (w:World) (B:Nat) (t ty e:TypeId) (i:TypeInfo) (z:Value) (size U:Nat) (ht:P.underlying t=some (.slice e)) (hi:P.info? e=some i) (hz:i.zero=some z)
  (aX:i.size=size) (cC:i.bytes=U) (gA:z.cells.size=size) (eV:0<size)
  (v:Value) (n:Nat) (xs:List Value) (Y:w.ownsRow B e size v n xs)
  (a:Addr) (m c:Nat) (J:List Value) (hl:J.length=m*size) (M:∀j u,J[j]?=some u->w.cell? (a.add j)=some u) (h1:∀u∈J,u.oneCell'=true)
  (cA:n+m<=maxLen) (O:(n+m)*U<=140737488355328) (hm:0<m)
  (hK:∀g,v.ownBlock=some g->Stk K w g) (aK:∀u∈J,K u) (bB:∀u∈z.cells.toList,K u)
  {v':Value} {w':World} (hr:(Builtin.append_ #[t,t] ty #[v,.slice (some a) m c]).run P w=.ok v' w'):
  ∀g,v'.ownBlock=some g->Stk K w' g:=by
 subst aX;subst cC;have bG:n+m<=9223372036854775807:=by simp only[maxLen]at cA;omega
 rcases Y.2 with⟨rfl,rfl⟩ |⟨g,cap,h,rfl,dX,hg,eP,dY,cD,bA⟩
 ·have Z:=run_append_nil (P:=P) w t ty e i z ht hi hz a m c J hl M (by omega) (by omega) (by have hb:=O;simp only[Nat.zero_add]at hb;omega)
  rw[Z]at hr;injection hr with hr3 hr4
  subst hr3;subst hr4;intro g hg;simp[Value.ownBlock]at hg;subst hg;refine Stk.of (Blk.new w.drew e _) ?_;intro u I;rw[Array.toList_append,List.mem_append]at I;rcases I with I|I
  ·exact aK u (by simpa using I)
  ·exact bB u (F7 I)
 ·have hS:=hK g rfl
  have aD:=Stk.cells (t:=e) hg hS;have cB:∀u∈xs,K u:=λu I=>aD u (List.mem_of_mem_take (by rw[bA];exact I))
  by_cases hroom:n+m<=cap
  ·have bC:n*i.size+J.length<=h.size:=by rw[hl,cD,<-Nat.add_mul];exact Nat.mul_le_mul_right _ hroom
   have Z:=run_append_room (P:=P) w t ty e i ht hi g n cap h hg a m c J hl M h1 hroom bC;rw[Z]at hr;injection hr with hr3 hr4
   subst hr3;subst hr4;intro g' V;simp[Value.ownBlock]at V;subst V;refine Stk.of (t:=e) (setRow_heap w g h _ e _ hg) ?_;intro u I;simp only[List.mem_append]at I;rcases I with(I|I)|I
   ·exact aD u (List.mem_of_mem_take I)
   ·exact aK u I
   ·exact aD u (List.mem_of_mem_drop I)
  ·have aN:∀j u,xs[j]?=some u->w.cell? ((⟨g,0,none⟩:Addr).add j)=some u:=Y.cells (g:=g) rfl
   have Z:=run_append_grow (P:=P) w t ty e i z ht hi hz ⟨g,0,none⟩ n cap xs Y.1 aN a m c J hl M (by omega) (by omega) (growslice_fits (by omega) O);rw[Z]at hr;injection hr with hr3 hr4
   subst hr3;subst hr4;intro g' V;simp[Value.ownBlock]at V;subst V;refine Stk.of (Blk.new w.drew e _) ?_;intro u I;rw[Array.toList_append,List.mem_append,Array.toList_append,List.mem_append]at I;rcases I with(I|I)|I
   ·exact cB u (by simpa using I)
   ·exact aK u (by simpa using I)
   ·exact bB u (F7 I)
def OwnK (K:Value->Prop) (w:World) (B E sz:Nat) (v:Value) (n:Nat) (xs:List Value):Prop:=w.ownsRow B E sz v n xs/\∀g,v.ownBlock=some g->Stk K w g
theorem OwnK.nil (K:Value->Prop) (w:World) (B E I:Nat):OwnK K w B E I (.slice none 0 0) 0 []:=⟨World.ownsRow_nil w B E I,λg hg=>by simp[Value.ownBlock]at hg⟩
theorem OwnK.keep {K:Value->Prop} {w w':World} {B E J n:Nat} {v:Value} {M:List Value} (h:OwnK K w B E J v n M) (I:Below w.heap.size w w'):OwnK K w' B E J v n M:=
 ⟨Kk h.1 I,λg hg=>(h.2 g hg).next I⟩
theorem Bj {P:Program} {W:World} {bC:Array Oper} {rest:List Oper} {o:Oper} {a:Act} {Q:Exit->Act->World->Prop} (K:Value->Prop) (cA:o.guard=none) (s x:Operand) (t E:TypeId)
  (ho:o.op=.call { callee:=.builtin .append,args:=#[s,x],argTypes:=#[t,t] }) {z:Value} {U J:Nat} (hU:P.underlying t=some (.slice E))
  (V:(P.info? E).map (λi=>(i.zero,i.size,i.bytes))=some (some z,U,J)) (bB:z.cells.size=U) (aK:0<U) (B n:Nat) (v:Value) (xs I:List Value)
  (hs:a.eval s=v) (aD:OwnK K W B E U v n xs) (hx:a.eval x=.slice (some ⟨W.heap.size,0,none⟩) 1 1) (hn:I.length=U) (h1:∀u∈I,u.oneCell'=true)
  (hb:(n+1)*J<=140737488355328) (hm:n+1<=9223372036854775807) (hB:B<=W.heap.size) (bH:∀u∈I,K u) (bY:∀u∈z.cells.toList,K u)
  (h:∀Y w',OwnK K w' B E U Y (n+1) (xs++I)->W.grownBy w' v.ownBlock->(Y.ownBlock=v.ownBlock∨Y.ownBlock=some (W.heap.size+1))->wpList P bC Q rest (a.put o.dst Y) w'):
  wpList P bC Q (o :: rest) a (W.alloc (.cells I.toArray E)):=by
 obtain⟨i0,hi,aN,aX,bA⟩:=info_parts V
 have O:∀(j:Nat) (u:Value),I[j]?=some u->(W.alloc (.cells I.toArray E)).cell? ((⟨W.heap.size,0,none⟩:Addr).add j)=some u:=by
  intro j u hu;have hc:=(Blk.new W E I.toArray).cell_ j
  have e:(⟨W.heap.size,0,none⟩:Addr).add j=⟨W.heap.size,j,none⟩:=by
   unfold Addr.add;split
   ·rename_i h0;rw[h0]
   ·simp
  rw[e,hc]
  simpa using hu
 have M:OwnK K (W.alloc (.cells I.toArray E)) B E U v n xs:=aD.keep ((Below.refl _ _).alloc (mG _) _);obtain⟨Y,w',hr,g1,g2,_,Z⟩:=run_append_own_at (P:=P) (W.alloc (.cells I.toArray E)) B t o.type E i0 z U J hU hi aN aX bA bB aK v n xs M.1 ⟨W.heap.size,0,none⟩ 1 1 I (by omega) O h1 hm hb (by simp;omega);have g4:=Ek K (W.alloc (.cells I.toArray E)) B t o.type E i0 z U J hU hi aN aX bA bB aK v n xs M.1 ⟨W.heap.size,0,none⟩ 1 1 I (by omega) O h1 hm hb (by omega) M.2 bH bY hr;refine wpList_plain cA λK' bG=>?_
 unfold Oper.wp execOp;simp only[ho,resolve,invoke,builtin,Sem.run_bind,Sem.run_pure,Result.andThen_ok,List.map_toArray,List.map_cons,List.map_nil,hs,hx,hr];refine bG _ _ (h Y w' ⟨g1,g4⟩ (Dn g2) ?_);rcases Z with Z|Z
 ·exact .inl Z
 ·exact .inr (by rw[Z];simp)
/-! What keeps the digits -/
structure I32 (w w':World):Prop where
 size:w.heap.size<=w'.heap.size
 cell:∀(g i n:Nat),w.cell? ⟨g,i,none⟩=some (.int .u32 n)->w'.cell? ⟨g,i,none⟩=some (.int .u32 n)
theorem I32.refl (w:World):I32 w w:=⟨mG _,λ_ _ _ h=>h⟩
theorem I32.trans {a b c:World} (h:I32 a b) (k:I32 b c):I32 a c:=⟨mH h.size k.size,λg i n e=>k.cell g i n (h.cell g i n e)⟩
theorem I32.below {w w':World} (I:Below w.heap.size w w'):I32 w w':=
 ⟨I.size,λg i _ e=>(I.cell (p:=⟨g,i,none⟩) (World.block_lt_of_cell? w ⟨g,i,none⟩ e)).trans e⟩
theorem I32.put {w:World} {R:Nat} (M:Sts w R) (i:Nat) (u:Value):I32 w (w.setCell ⟨R,i,none⟩ u):=
 ⟨by simp,λg j n e=>by
  have I:R≠g:=λJ=>M.2 j _ (by rw[J];exact e) _ _ rfl
  rw[World.cell?_setCell_far w ⟨R,i,none⟩ ⟨g,j,none⟩ u I];exact e⟩
theorem I32.put4 {w:World} {R:Nat} (I:Sts w R) (i j k l:Nat) (v0 v1 v2 v3:Value) (J:NotInt v0) (M:NotInt v1) (O:NotInt v2):
  I32 w ((((w.setCell ⟨R,i,none⟩ v0).setCell ⟨R,j,none⟩ v1).setCell ⟨R,k,none⟩ v2).setCell ⟨R,l,none⟩ v3):=
 (((I32.put I i v0).trans (I32.put (I.put _ _ J) j v1)).trans (I32.put ((I.put _ _ J).put _ _ M) k v2)).trans (I32.put (((I.put _ _ J).put _ _ M).put _ _ O) l v3)
theorem I32.put2 {w:World} {R:Nat} (I:Sts w R) (i j:Nat) (v0 v1:Value) (J:NotInt v0):I32 w ((w.setCell ⟨R,i,none⟩ v0).setCell ⟨R,j,none⟩ v1):=
 (I32.put I i v0).trans (I32.put (I.put _ _ J) j v1)
theorem I32.grown {K:Value->Prop} (I:∀n,¬K (.int .u32 n)) {w w':World} {v:Value} (hK:∀g,v.ownBlock=some g->Stk K w g) (hg:w.grownBy w' v.ownBlock):I32 w w':=
 ⟨hg.size,λg i n e=>hg.cell e (λJ=>I n ((hK g J.symm).2 i _ e))⟩
theorem Fv (n:Int):¬NotInt (.int .u32 n):=λh=>h _ _ rfl
theorem Dg.i32 {w w':World} (h:I32 w w') {p:Option Addr} {c n:Nat} {a:Nat->Nat} (I:Dg w p c n a):Dg w' p c n a:=
 ⟨I.cap,I.lt,by
  rcases I.at' with J |⟨g,o,e,hg,M⟩
  ·exact .inl J
  ·exact .inr ⟨g,o,e,mI hg h.size,λj O=>h.cell _ _ _ (M j O)⟩⟩
theorem Zs.i32 {w w':World} (h:I32 w w') {s:Bool} {p:Option Addr} {n c:Nat} {z:Int} (I:Zs w s p n c z):Zs w' s p n c z:=⟨I.1,I.2.1,Dg.i32 h I.2.2⟩
theorem Zr.i32 {w w':World} (h:I32 w w') {s:Bool} {p:Option Addr} {n c:Nat} {z:Int} (M:Zr w s p n c z):Zr w' s p n c z:=by
 obtain⟨a,I,J⟩:=M;exact⟨a,Dg.i32 h I,J⟩
theorem Qs.i32 {w w':World} (h:I32 w w') {s:Bool} {p:Option Addr} {n c:Nat} {t:Bool} {q:Option Addr} {m d:Nat} {r:Rat} (I:Qs w s p n c t q m d r):Qs w' s p n c t q m d r:=⟨I.1.i32 h,I.2.i32 h⟩
/-! Elements of rows of fractions -/
abbrev FP:=World->Bool->Option Addr->Nat->Nat->Bool->Option Addr->Nat->Nat->Prop
def Bh (P:FP):Prop:=∀w w' s p n c t q m d,I32 w w'->P w s p n c t q m d->P w' s p n c t q m d
def IsQ (r:Rat):FP:=λw s p n c t q m d=>Qs w s p n c t q m d r
theorem IsQ.solid (r:Rat):Bh (IsQ r):=λ_ _ _ _ _ _ _ _ _ _ h hq=>hq.i32 h
def IsR (x y:Int):FP:=λw s p n c t q m d=>Zr w s p n c x/\Zr w t q m d y/\n<=4/\m<=4
theorem IsR.solid (x y:Int):Bh (IsR x y):=λ_ _ _ _ _ _ _ _ _ _ h hq=>⟨hq.1.i32 h,hq.2.1.i32 h,hq.2.2⟩
def QE (P:FP) (w:World) (g i:Nat):Prop:=∃s p n c t q m d,w.cell? ⟨g,i,none⟩=some (.bool s)/\w.cell? ⟨g,i+1,none⟩=some (.slice p n c)/\w.cell? ⟨g,i+2,none⟩=some (.bool t)/\w.cell? ⟨g,i+3,none⟩=some (.slice q m d)/\P w s p n c t q m d
theorem QE.keep {P:FP} (Z:Bh P) {w w':World} {g i:Nat} (h:QE P w g i) (J:Below w.heap.size w w'):QE P w' g i:=by
 obtain⟨s,p,n,c,t,q,m,d,M,O,U,V,Y⟩:=h;have I:∀j v,w.cell? ⟨g,j,none⟩=some v->w'.cell? ⟨g,j,none⟩=some v:=λj v e=>(J.cell (p:=⟨g,j,none⟩) (World.block_lt_of_cell? w ⟨g,j,none⟩ e)).trans e
 exact⟨s,p,n,c,t,q,m,d,I _ _ M,I _ _ O,I _ _ U,I _ _ V,Z _ _ _ _ _ _ _ _ _ _ (I32.below J) Y⟩
def QL (F:Nat->FP) (w:World) (v:Value) (n:Nat):Prop:=(n=0/\∃a c,v=.slice a 0 c)∨∃g o cap,v=.slice (some ⟨g,o,none⟩) n cap/\g<w.heap.size/\∀j,j<n->QE (F j) w g (o+j*4)
theorem QL.keep {F:Nat->FP} (hF:∀j,Bh (F j)) {w w':World} {v:Value} {n:Nat} (h:QL F w v n) (I:Below w.heap.size w w'):QL F w' v n:=by
 rcases h with h |⟨g,o,cap,e,hg,J⟩
 ·exact .inl h
 ·exact .inr ⟨g,o,cap,e,mI hg I.size,λj M=>(J j M).keep (hF j) I⟩
structure QRow (F:Nat->FP) (w:World) (g N k:Nat):Prop where
 sts:Sts w g
 free:∀i,i<N*4->w.frozen? ⟨g,i,none⟩=false
 has:∀i,i<N*4->(w.cell? ⟨g,i,none⟩).isSome=true
 val:∀j,j<k->QE (F j) w g (j*4)
theorem QRow.keep {F:Nat->FP} (hF:∀j,Bh (F j)) {w w':World} {g N k:Nat} (h:QRow F w g N k) (I:Below w.heap.size w w'):QRow F w' g N k:=
 ⟨h.sts.next I,λi J=>Ac I (h.has i J) (h.free i J),λi J=>by rw[I.cell (p:=⟨g,i,none⟩) h.sts.1];exact h.has i J,λj M=>(h.val j M).keep (hF j) I⟩
theorem QRow.ql {F:Nat->FP} {w:World} {g N:Nat} (h:QRow F w g N N) (c:Nat):QL F w (.slice (some ⟨g,0,none⟩) N c) N:=
 .inr ⟨g,0,c,rfl,h.sts.1,λj I=>by rw[Nat.zero_add];exact h.val j I⟩
theorem QRow.congr {F G:Nat->FP} {w:World} {g N k:Nat} (h:QRow F w g N k) (e:∀j,j<k->F j=G j):QRow G w g N k:=⟨h.sts,h.free,h.has,λj I=>by rw[<-e j I];exact h.val j I⟩
theorem Ah {w:World} {a:Addr} {R i:Nat} {u:Value} (h:(w.cell? a).isSome=true):((w.setCell ⟨R,i,none⟩ u).cell? a).isSome=true:=Gg h
theorem QRow.set {F:Nat->FP} (hF:∀j,Bh (F j)) {w:World} {g N k k':Nat} (h:QRow F w g N k) (j:Nat) (hj:j<N) (G:Nat->FP) (hG:Bh (G j)) (hk:∀i,i<k'->i≠j->i<k/\F i=G i)
  {s t:Bool} {p q:Option Addr} {n c m d:Nat} (hq:G j w s p n c t q m d):
  QRow G ((((w.setCell ⟨g,j*4,none⟩ (.bool s)).setCell ⟨g,j*4+1,none⟩ (.slice p n c)).setCell ⟨g,j*4+2,none⟩ (.bool t)).setCell ⟨g,j*4+3,none⟩ (.slice q m d)) g N k':=by
 have J:=I32.put4 h.sts (j*4) (j*4+1) (j*4+2) (j*4+3) (.bool s) (.slice p n c) (.bool t) (.slice q m d) (NotInt.bool _) (NotInt.slice _ _ _) (NotInt.bool _);have s1:=h.sts.put ⟨g,j*4,none⟩ (.bool s) (NotInt.bool _);have s2:=s1.put ⟨g,j*4+1,none⟩ (.slice p n c) (NotInt.slice _ _ _);have s3:=s2.put ⟨g,j*4+2,none⟩ (.bool t) (NotInt.bool _);have s4:=s3.put ⟨g,j*4+3,none⟩ (.slice q m d) (NotInt.slice _ _ _);refine⟨s4,λi M=>At (At (At (At (h.free i M)))),λi M=>Ah (Ah (Ah (Ah (h.has i M)))),λi M=>?_⟩;by_cases hij:i=j
 ·subst hij
  have c0:=h.has (i*4) (by omega);have c1:=Ah (R:=g) (i:=i*4) (u:=.bool s) (h.has (i*4+1) (by omega));have c2:=Ah (R:=g) (i:=i*4+1) (u:=.slice p n c) (Ah (R:=g) (i:=i*4) (u:=.bool s) (h.has (i*4+2) (by omega)));have c3:=Ah (R:=g) (i:=i*4+2) (u:=.bool t) (Ah (R:=g) (i:=i*4+1) (u:=.slice p n c) (Ah (R:=g) (i:=i*4) (u:=.bool s) (h.has (i*4+3) (by omega))));refine⟨s,p,n,c,t,q,m,d,?_,?_,?_,?_,hG _ _ _ _ _ _ _ _ _ _ J hq⟩
  ·rw[World.cell?_setCell_other _ _ _ _ (by simp),World.cell?_setCell_other _ _ _ _ (by simp),World.cell?_setCell_other _ _ _ _ (by simp),World.cell?_setCell_same' _ _ _ c0]
  ·rw[World.cell?_setCell_other _ _ _ _ (by simp),World.cell?_setCell_other _ _ _ _ (by simp),World.cell?_setCell_same' _ _ _ c1]
  ·rw[World.cell?_setCell_other _ _ _ _ (by simp),World.cell?_setCell_same' _ _ _ c2]
  ·rw[World.cell?_setCell_same' _ _ _ c3]
 ·obtain⟨O,e⟩:=hk i M hij
  obtain⟨s',p',n',U,t',q',m',V,Y,Z,e2,e3,e4⟩:=h.val i O;rw[<-e]
  have I:∀(x:Nat) (v:Value),i*4<=x->x<i*4+4->w.cell? ⟨g,x,none⟩=some v->((((w.setCell ⟨g,j*4,none⟩ (.bool s)).setCell ⟨g,j*4+1,none⟩ (.slice p n c)).setCell ⟨g,j*4+2,none⟩ (.bool t)).setCell ⟨g,j*4+3,none⟩ (.slice q m d)).cell? ⟨g,x,none⟩=some v:=by
   intro x v bC bE hv;rw[World.cell?_setCell_other _ _ _ _ (by simp <;> omega),World.cell?_setCell_other _ _ _ _ (by simp <;> omega),World.cell?_setCell_other _ _ _ _ (by simp <;> omega),World.cell?_setCell_other _ _ _ _ (by simp <;> omega)];exact hv
  exact⟨s',p',n',U,t',q',m',V,I _ _ (by omega) (by omega) Y,I _ _ (by omega) (by omega) Z,I _ _ (by omega) (by omega) e2,I _ _ (by omega) (by omega) e3,hF i _ _ _ _ _ _ _ _ _ _ J e4⟩
def QX (P:FP) (w:World) (xs:List Value) (i:Nat):Prop:=∃s p n c t q m d,xs[i]?=some (.bool s)/\xs[i+1]?=some (.slice p n c)/\xs[i+2]?=some (.bool t)/\xs[i+3]?=some (.slice q m d)/\P w s p n c t q m d
def OwnQ (F:Nat->FP) (w:World) (B:Nat) (v:Value) (n:Nat):Prop:=∃xs,OwnK NotInt w B 86 4 v n xs/\∀j,j<n->QX (F j) w xs (j*4)
theorem OwnQ.nil (F:Nat->FP) (w:World) (B:Nat):OwnQ F w B (.slice none 0 0) 0:=⟨[],OwnK.nil _ _ _ _ _,λ_ I=>absurd I (Nat.not_lt_zero _)⟩
theorem QX.i32 {P:FP} (Y:Bh P) {w w':World} (h:I32 w w') {I:List Value} {i:Nat} (Z:QX P w I i):QX P w' I i:=by
 obtain⟨s,p,n,c,t,q,m,d,J,M,O,U,V⟩:=Z;exact⟨s,p,n,c,t,q,m,d,J,M,O,U,Y _ _ _ _ _ _ _ _ _ _ h V⟩
theorem OwnQ.keep {F:Nat->FP} (hF:∀j,Bh (F j)) {w w':World} {B n:Nat} {v:Value} (h:OwnQ F w B v n) (I:Below w.heap.size w w'):OwnQ F w' B v n:=by
 obtain⟨U,J,M⟩:=h;exact⟨U,J.keep I,λj O=>(M j O).i32 (hF j) (I32.below I)⟩
theorem QX.app {P:FP} {w:World} {I O:List Value} {i:Nat} (h:QX P w I i):QX P w (I++O) i:=by
 obtain⟨s,p,n,c,t,q,m,d,U,V,Y,Z,h4⟩:=h
 have J:∀(j:Nat) (v:Value),I[j]?=some v->(I++O)[j]?=some v:=by
  intro j v e;rw[List.getElem?_append_left]
  ·exact e
  ·rcases Nat.lt_or_ge j I.length with hlt|M
   ·exact hlt
   ·rw[List.getElem?_eq_none M]at e;cases e
 exact⟨s,p,n,c,t,q,m,d,J _ _ U,J _ _ V,J _ _ Y,J _ _ Z,h4⟩
theorem OwnQ.push {F:Nat->FP} (hF:∀j,Bh (F j)) {W w':World} {B n:Nat} {v U:Value} {M:List Value} (O:OwnK NotInt W B 86 4 v n M) (V:∀j,j<n->QX (F j) W M (j*4))
  {s t:Bool} {p q:Option Addr} {k c m d:Nat} (hq:F n W s p k c t q m d) (Y:OwnK NotInt w' B 86 4 U (n+1) (M++[.bool s,.slice p k c,.bool t,.slice q m d])) (hg:W.grownBy w' v.ownBlock):OwnQ F w' B U (n+1):=by
 have I:=I32.grown (K:=NotInt) (λx=>Fv x) O.2 hg;refine⟨_,Y,λj Z=>?_⟩;by_cases hjn:j<n
 ·exact((V j hjn).i32 (hF j) I).app
 ·obtain rfl:j=n:=by omega
  have J:M.length=j*4:=O.1.1;refine⟨s,p,k,c,t,q,m,d,?_,?_,?_,?_,hF j _ _ _ _ _ _ _ _ _ _ I hq⟩
  ·rw[List.getElem?_append_right (by omega),J,show j*4 - j*4=0 by omega];rfl
  ·rw[List.getElem?_append_right (by omega),J,show j*4+1 - j*4=1 by omega];rfl
  ·rw[List.getElem?_append_right (by omega),J,show j*4+2 - j*4=2 by omega];rfl
  ·rw[List.getElem?_append_right (by omega),J,show j*4+3 - j*4=3 by omega];rfl
theorem OwnQ.row {F:Nat->FP} {w:World} {B n:Nat} {v:Value} (h:OwnQ F w B v n):(n=0/\v=.slice none 0 0)∨∃g cap,v=.slice (some ⟨g,0,none⟩) n cap/\B<=g/\QRow F w g n n:=by
 obtain⟨M,I,h2⟩:=h;rcases Dk I.1 with⟨rfl,rfl,_⟩ |⟨g,cap,rfl,hB,hg,hc⟩
 ·exact .inl ⟨rfl,rfl⟩
 ·right
  have hl:M.length=n*4:=I.1.1;have hs:=I.2 g rfl;refine⟨g,cap,rfl,hB,⟨hs,?_,?_,?_⟩⟩
  ·intro i hi
   rcases Mc I.1 with J |⟨g',cs,J,_,h4⟩
   ·simp[Value.ownBlock]at J
   ·simp[Value.ownBlock]at J
    subst J;exact h4.free_ i
  ·intro i hi
   rw[Aq I.1 (List.getElem?_eq_getElem (by omega:i<M.length))];rfl
  ·intro j hj
   obtain⟨s,p,n',c,t,q,m,d,O,U,V,Y,Z⟩:=h2 j hj;exact⟨s,p,n',c,t,q,m,d,Aq I.1 O,Aq I.1 U,Aq I.1 V,Aq I.1 Y,Z⟩
theorem OwnQ.ql {F:Nat->FP} {w:World} {B n:Nat} {v:Value} (h:OwnQ F w B v n):QL F w v n:=by
 rcases h.row with⟨rfl,rfl⟩ |⟨g,cap,rfl,_,hr⟩
 ·exact .inl ⟨rfl,_,_,rfl⟩
 ·exact hr.ql cap
def iR (neg:Bool) (v:Nat) (S:Nat) (w:World) (u:Value) (wr:World):Prop:=
 Blk wr S 84 #[.bool false,.slice none 0 0]/\Below S w wr/\S<wr.heap.size /\
 ((u=.int .u64 (v:Nat)/\Blk wr (S+1) 84 #[.bool neg,.slice none 0 0]) ∨
  (u=.int .u64 0/\v≠0/\∃p c,Blk wr (S+1) 84 #[.bool neg,.slice p 1 c]/\Dg wr p c 1 (λ_=>v)))
theorem iS (n:Int) (w:World) (h1:-2147483648<=n) (h2:n<=2147483648):
  Calls prog 110 #[.int .i64 n] w λe w'=>K8 w' e n/\Below w.heap.size w w':=by
 obtain⟨v,hv⟩:∃v:Nat,n.natAbs=v:=⟨_,rfl⟩
 have cD:v<4294967296:=by omega
 have cA:(v:Int) % 4294967296=(v:Nat):=by omega
 have bY:(v:Int) / 4294967296=0:=by omega
 have HV:=Kh (show sg (decide (n<0)) v=n by rw[<-hv];exact dJ n);have bB:=Kh (show v=0->n=0 by omega);have cC:=Kh cD;clear cD;by_cases hneg:n<0
 ·have e1:IntKind.u64.wrap n=n+18446744073709551616:=by rw[IntKind.wrap_u64];omega
  have e2:IntKind.u64.wrap (-(n+18446744073709551616))=(v:Nat):=by rw[IntKind.wrap_u64];omega
  have e3:IntKind.u64.wrap (-n)=(v:Nat):=by rw[IntKind.wrap_u64];omega
  have hd:decide (n<0)=true:=decide_eq_true hneg;rw[hd]at HV;have cF:v≠0:=by omega
  clear h1 h2 hv;go_enter func110,ntmps110
  go_wp2;obtain⟨w0,aN,M,O,I⟩:=bx2 w #[.bool false,.slice none 0 0] 84 #[.bool true,.slice none 0 0] 84;rw[aN];have aD:=Kh (show iR true v w.heap.size w (.int .u64 (v:Nat)) w0 from⟨M,I,M.lt,.inl ⟨rfl,O⟩⟩);clear aN M O I;go_loopw [3] (λu wr=>iR true v w.heap.size w u wr) (λu _=>(intOf u).toNat)
  case atStart=>exact aD.1
  case round=>
   obtain⟨M,I,hlt,⟨rfl,O⟩ |⟨rfl,Z,p,c,O,hd⟩⟩:=hrel
   ·clear aD
    by_cases Z:v=0
    ·exact absurd Z cF
    ·have a0:=O.at_ 0 rfl
     have a1:=O.at_ 1 rfl;have V:=Kh M;have J:=Kh O;have h:=Kh I;have eP:(v:Int) > 0:=by omega
     clear M O I;go_wp2_with (at_builtin;refine Py rfl (.tmp 17) (.tmp 20) _ 200 rfl Yx Yw rfl (by decide) wr.heap.size 0 (.slice none 0 0) [] [.int .u32 (v:Nat)] rfl (World.ownsRow_nil _ _ _ _) rfl rfl (cW v) (by omega) (by omega) (mG _) ?_;intro v' w' U Y bH;obtain⟨p9,c9,rfl,aK⟩:=Dg.of_own (n:=1) (a:=λ_=>v) U (λ_ _=>cC.1);have V:=Kh (V.1.grown_ Y (by simp[Value.ownBlock]));have J:=Kh (J.1.grown_ Y (by simp[Value.ownBlock]));have h:=Kh (h.1.grown Y h.1.size (by intro k hk;simp[Value.ownBlock]at hk));have b0:w'.cell? ⟨w.heap.size+1,0,none⟩=some (.bool true):=J.1.at_ 0 rfl;have b1:w'.cell? ⟨w.heap.size+1,1,none⟩=some (.slice none 0 0):=J.1.at_ 1 rfl;have f1:w'.frozen? ⟨w.heap.size+1,1,none⟩=false:=J.1.free_ 1;have bE:=Kh aK;clear U Y bH aK)
     go_roundw
     case rel=>
      refine⟨V.1.far_ (by simp) _,h.1.setCell (by simp) _,mI V.1.lt (by simp),.inr ⟨rfl,Z,p9,c9,J.1.set_ 1 _,?_⟩⟩;exact bE.1.put (Sts.box J.1) 1 _
     case measure=>simp[intOf];omega
   ·have a0:=O.at_ 0 rfl
    have a1:=O.at_ 1 rfl;have z0:=M.at_ 0 rfl;have z1:=M.at_ 1 rfl;have f0:=M.free_ 0;have f1:=M.free_ 1;have h:=Kh I
    have aX:Zs wr true p 1 c n:=by
     have h1:=Dg.norm hd (.inr Z);rw[show vf (λ_=>v) 1=v from by simp[vf]]at h1;have h2:=Tg (s:=true) (t:=true) h1.2 h1.1 (by simp);rwa [HV.1]at h2
    have HZ:=Kh (aX.put2 (Sts.box M) 0 1 (.bool true) (.slice p 1 c) (NotInt.bool _));clear M O I hlt cA bY HV bB hd aX aD;go_wp2;refine bodyPost_ret (by simp[results,results110,go_sem,z0,z1];try rfl) rfl ?_;exact⟨⟨_,p,1,c,rfl,HZ.1⟩,(h.1.setCell (mG _) _).setCell (mG _) _⟩
 ·have e1:IntKind.u64.wrap n=(v:Nat):=by rw[IntKind.wrap_u64];omega
  have hd:decide (n<0)=false:=decide_eq_false hneg;rw[hd]at HV;clear h1 h2 hv;go_enter func110,ntmps110
  go_wp2;obtain⟨w0,aN,M,O,I⟩:=bx2 w #[.bool false,.slice none 0 0] 84 #[.bool false,.slice none 0 0] 84;rw[aN];have aD:=Kh (show iR false v w.heap.size w (.int .u64 (v:Nat)) w0 from⟨M,I,M.lt,.inl ⟨rfl,O⟩⟩);clear aN M O I;go_loopw [3] (λu wr=>iR false v w.heap.size w u wr) (λu _=>(intOf u).toNat)
  case atStart=>exact aD.1
  case round=>
   obtain⟨M,I,hlt,⟨rfl,O⟩ |⟨rfl,Z,p,c,O,hd⟩⟩:=hrel
   ·clear aD
    by_cases Z:v=0
    ·subst Z
     obtain rfl:n=0:=bB.1 rfl;have a0:=O.at_ 0 rfl;have a1:=O.at_ 1 rfl;have z0:=M.at_ 0 rfl;have z1:=M.at_ 1 rfl;have f0:=M.free_ 0;have f1:=M.free_ 1;have h:=Kh I;clear M O I hlt cA bY HV bB;go_wp2;refine bodyPost_ret (by simp[results,results110,go_sem,z0,z1];try rfl) rfl ?_;exact⟨⟨_,none,0,0,rfl,rfl,rfl,Nm.nil _⟩,(h.1.setCell (mG _) _).setCell (mG _) _⟩
    ·have a0:=O.at_ 0 rfl
     have a1:=O.at_ 1 rfl;have V:=Kh M;have J:=Kh O;have h:=Kh I;have eP:(v:Int) > 0:=by omega
     clear M O I;go_wp2_with (at_builtin;refine Py rfl (.tmp 17) (.tmp 20) _ 200 rfl Yx Yw rfl (by decide) wr.heap.size 0 (.slice none 0 0) [] [.int .u32 (v:Nat)] rfl (World.ownsRow_nil _ _ _ _) rfl rfl (cW v) (by omega) (by omega) (mG _) ?_;intro v' w' U Y bH;obtain⟨p9,c9,rfl,aK⟩:=Dg.of_own (n:=1) (a:=λ_=>v) U (λ_ _=>cC.1);have V:=Kh (V.1.grown_ Y (by simp[Value.ownBlock]));have J:=Kh (J.1.grown_ Y (by simp[Value.ownBlock]));have h:=Kh (h.1.grown Y h.1.size (by intro k hk;simp[Value.ownBlock]at hk));have b0:w'.cell? ⟨w.heap.size+1,0,none⟩=some (.bool false):=J.1.at_ 0 rfl;have b1:w'.cell? ⟨w.heap.size+1,1,none⟩=some (.slice none 0 0):=J.1.at_ 1 rfl;have f1:w'.frozen? ⟨w.heap.size+1,1,none⟩=false:=J.1.free_ 1;have bE:=Kh aK;clear U Y bH aK)
     go_roundw
     case rel=>
      refine⟨V.1.far_ (by simp) _,h.1.setCell (by simp) _,mI V.1.lt (by simp),.inr ⟨rfl,Z,p9,c9,J.1.set_ 1 _,?_⟩⟩;exact bE.1.put (Sts.box J.1) 1 _
     case measure=>simp[intOf];omega
   ·have a0:=O.at_ 0 rfl
    have a1:=O.at_ 1 rfl;have z0:=M.at_ 0 rfl;have z1:=M.at_ 1 rfl;have f0:=M.free_ 0;have f1:=M.free_ 1;have h:=Kh I
    have aX:Zs wr false p 1 c n:=by
     have h1:=Dg.norm hd (.inr Z);rw[show vf (λ_=>v) 1=v from by simp[vf]]at h1;have h2:=Tg (s:=false) (t:=false) h1.2 h1.1 (by simp);rwa [HV.1]at h2
    have HZ:=Kh (aX.put2 (Sts.box M) 0 1 (.bool false) (.slice p 1 c) (NotInt.bool _));clear M O I hlt cA bY HV bB hd aX aD;go_wp2;refine bodyPost_ret (by simp[results,results110,go_sem,z0,z1];try rfl) rfl ?_;exact⟨⟨_,p,1,c,rfl,HZ.1⟩,(h.1.setCell (mG _) _).setCell (mG _) _⟩
theorem kO (n:Int) (w:World) (h1:-2147483648<=n) (h2:n<=2147483648):
  Calls prog 78 #[.int .i64 n] w λe w'=>Gr w' e (n:Rat)/\Below w.heap.size w w':=by
 have Z:=Kh (λw1=>iS n w1 h1 h2);have h:=Kh (λw1=>iS 1 w1 (by omega) (by omega));clear h1 h2;go_enter func78,ntmps78
 go_wp2_with fail
 obtain⟨w0,aX,X0,O⟩:=bx1 w #[.bool false,.slice none 0 0,.bool false,.slice none 0 0] 86;rw[aX];have aN:w.heap.size<=w0.heap.size:=O.size;clear aX;refine(Z.1 w0).mono ?_;rintro e w1 ⟨⟨s2,p2,n2,e2,rfl,bA⟩,U⟩;have HA:=Kh bA;have V:=Kh (O.trans (U.mono aN));have Y:=Kh (X0.below_ U X0.lt);clear bA O U X0 aN Z;go_wp2_with fail
 refine(h.1 w1).mono ?_;rintro e w4 ⟨⟨s3,p3,n3,e3,rfl,bB⟩,J⟩
 have HQ:=Kh (show Qs w4 s2 p2 n2 e2 s3 p3 n3 e3 (n:Rat)by
  unfold Qs;rw[Rat.num_intCast,Rat.den_intCast];exact⟨HA.1.keep J,bB⟩)
 have I:=Kh (bk Y J);have HB:=bt V J;have HG:=Kh (rfl:(n:Rat)=(n:Rat));clear bB J h V Y HA;have r0:=I.1.at_ 0 rfl;have r1:=I.1.at_ 1 rfl;have r2:=I.1.at_ 2 rfl;have r3:=I.1.at_ 3 rfl;have f0:=I.1.free_ 0;have f1:=I.1.free_ 1;have f2:=I.1.free_ 2;have f3:=I.1.free_ 3;obtain⟨w9,M⟩:∃w9,(((w4.setCell ⟨w.heap.size,0,none⟩ (.bool s2)).setCell ⟨w.heap.size,1,none⟩ (.slice p2 n2 e2)).setCell ⟨w.heap.size,2,none⟩ (.bool s3)).setCell ⟨w.heap.size,3,none⟩ (.slice p3 n3 e3)=w9:=⟨_,rfl⟩
 obtain⟨E0,E1,E2,E3,aK⟩:=B9 I.1 HQ.1 M;have aD:Below w.heap.size w w9:=by rw[<-M];exact As HB.1 (by omega) _ _ _ _
 have cD:=Kh M;have cB:=Kh (And.intro E0 (And.intro E1 (And.intro E2 E3)));have cC:=Kh aK;have cA:=Kh aD;clear E0 E1 E2 E3 aK aD M HQ HB I;go_wp2;try rw[cD.1]
 obtain⟨E0,E1,E2,E3⟩:=cB.1;try simp only[Exit.inBlock,Exit.then]
 refine bodyPost_ret (by simp[results,results78,go_sem,E0,E1,E2,E3];try rfl) rfl ?_;exact⟨⟨s2,p2,n2,e2,s3,p3,n3,e3,rfl,cC.1⟩,cA.1⟩
theorem Tv (s:Bool) (p:Option Addr) (n c:Nat) (t:Bool) (q:Option Addr) (m d:Nat) (x:Rat) (s':Bool) (p':Option Addr) (n' c':Nat) (t':Bool) (q':Option Addr) (m' d':Nat) (y:Rat) (w:World) (h:Qs w s p n c t q m d x) (h':Qs w s' p' n' c' t' q' m' d' y) (hx:hq x<=35184372088830):
  Calls prog 72 #[.agg #[.bool s,.slice p n c,.bool t,.slice q m d],.agg #[.bool s',.slice p' n' c',.bool t',.slice q' m' d']] w λe w'=>e=.returned (.bool (decide (x=y)))/\Below w.heap.size w w':=by
 obtain⟨r,hr⟩:∃r,decide (x=y)=r:=⟨_,rfl⟩
 rw[hr];have HR:=Kh hr;have HS:=Kh h.sizes;have H1:=Kh (λV (Y:Below w.heap.size w V)=>Lq s p n c x.num s' p' n' c' y.num V (h.1.keep Y) (h'.1.keep Y) (by have:=h.sizes;omega));have H2:=Kh (λV (Y:Below w.heap.size w V)=>Lq t q m d x.den t' q' m' d' y.den V (h.2.keep Y) (h'.2.keep Y) (by have:=h.sizes;omega));clear h h' hx hr;go_enter func72,ntmps72
 go_wp2_with fail
 obtain⟨w0,aD,X0,X1,U⟩:=bx2 w #[.bool s,.slice p n c,.bool t,.slice q m d] 86 #[.bool s',.slice p' n' c',.bool t',.slice q' m' d'] 86;rw[aD];have cG:w.heap.size<=w0.heap.size:=U.size;clear aD;have a0:=X0.at_ 0 rfl;have a1:=X0.at_ 1 rfl;have b0:=X1.at_ 0 rfl;have b1:=X1.at_ 1 rfl;have J:=Kh X0;have M:=Kh X1;have HB:=Kh U;clear X0 X1 U cG;refine(H1.1 w0 HB.1).mono ?_;rintro e V ⟨rfl,O⟩;have I:=bt HB O;replace J:=Kh (bk J O);replace M:=Kh (bk M O);have a2:=J.1.at_ 2 rfl;have a3:=J.1.at_ 3 rfl;have b2:=M.1.at_ 2 rfl;have b3:=M.1.at_ 3 rfl;clear O a0 a1 b0 b1 HB H1;by_cases h1:x.num=y.num
 ·rw[decide_eq_true h1]
  go_wp2_with fail
  refine(H2.1 V I.1).mono ?_;rintro e w2 ⟨rfl,Z⟩;have cC:=bt I Z;obtain⟨z,hz⟩:∃z,decide ((x.den:Int)=y.den)=z:=⟨_,rfl⟩
  have HE:=Kh (show z=r by
   rw[<-HR.1,<-hz,decide_eq_decide];exact⟨λh=>Rat.ext h1 (by omega),λh=>by rw[h]⟩)
  rw[hz];clear Z H2 I hz h1 HR;go_wp2;go_ret;exact⟨Ca HE.1,cC.1⟩
 ·rw[decide_eq_false h1]
  have HE:=Kh (show false=r by
   rw[<-HR.1];exact(decide_eq_false λh=>h1 (by rw[h])).symm)
  clear H2 h1 HR;go_wp2;go_ret;exact⟨Ca HE.1,I.1⟩
theorem Dz (v1 v2:Value) (n:Nat) (f:Nat->Rat) (w:World) (Y:QL (λj=>IsQ (f j)) w v1 n) (Z:QL (λj=>IsQ (f j)) w v2 n) (hn:n<=1000000) (hf:∀j,j<n->hq (f j)<=35184372088830):
  Calls prog 27 #[v1,v2] w λe w'=>e=.returned (.bool true)/\Below w.heap.size w w':=by
 rcases Nat.eq_zero_or_pos n with rfl|cT
 ·have e1:∃a c,v1=.slice a 0 c:=by
   rcases Y with⟨_,h⟩ |⟨_,_,_,e,_⟩
   ·exact h
   ·exact⟨_,_,e⟩
  have e2:∃a c,v2=.slice a 0 c:=by
   rcases Z with⟨_,h⟩ |⟨_,_,_,e,_⟩
   ·exact h
   ·exact⟨_,_,e⟩
  obtain⟨a1,c1,rfl⟩:=e1;obtain⟨a2,c2,rfl⟩:=e2;clear Y Z hf hn;go_enter func27,ntmps27
  go_wp2;go_loopw [5] (λi wr=>i=.int .i64 0/\wr=w) (λ_ _=>0)
  case atStart=>exact⟨rfl,rfl⟩
  case round=>
   obtain⟨rfl,rfl⟩:=hrel;go_wp2;go_ret;exact⟨rfl,Below.refl _ _⟩
 ·obtain⟨U,o1,l1,rfl,gS,r1⟩:=Y.resolve_left (λh=>by omega)
  obtain⟨V,o2,l2,rfl,gU,r2⟩:=Z.resolve_left (λh=>by omega);have R1:=Kh r1;have R2:=Kh r2;have HF:=Kh hf;clear Y Z r1 r2 hf;go_enter func27,ntmps27
  go_wp2;go_loopw [5] (λi wr=>∃k:Nat,k<=n/\i=.int .i64 k/\Below w.heap.size w wr) (λi _=>n - (intOf i).toNat)
  case atStart=>exact⟨0,Nat.zero_le _,rfl,Below.refl _ _⟩
  case round=>
   obtain⟨k,hk,rfl,J⟩:=hrel;by_cases hlt:k<n
   ·have O:=Kh J
    obtain⟨s,p,i1,c,t,q,m,d,a0,a1,a2,a3,hx⟩:=(R1.1 k hlt).keep (IsQ.solid _) J;obtain⟨s',p',M,c',t',q',m',d',b0,b1,b2,b3,hy⟩:=(R2.1 k hlt).keep (IsQ.solid _) J;have HC:=Kh (λI (h:Below wr.heap.size wr I)=>Tv s p i1 c t q m d (f k) s' p' M c' t' q' m' d' (f k) I (Qs.keep hx h) (Qs.keep hy h) (HF.1 k hlt));simp only[decide_true]at HC;clear hx hy J;go_upto_region 6 with(fail)
    have bB:=D5 (Below.refl _ wr).drew ⟨a0,a1,a2,a3,b0,b1,b2,b3,Below.refl _ _,Below.size (show Below wr.heap.size wr wr from Below.refl _ _)⟩;clear a0 a1 a2 a3 b0 b1 b2 b3;have M1:True:=trivial
    go_region_held3 (λI=>I.cell? ⟨U,o1+k*4,none⟩=some (.bool s)/\I.cell? ⟨U,o1+k*4+1,none⟩=some (.slice p i1 c)/\I.cell? ⟨U,o1+k*4+2,none⟩=some (.bool t)/\I.cell? ⟨U,o1+k*4+3,none⟩=some (.slice q m d)/\I.cell? ⟨V,o2+k*4,none⟩=some (.bool s')/\I.cell? ⟨V,o2+k*4+1,none⟩=some (.slice p' M c')/\I.cell? ⟨V,o2+k*4+2,none⟩=some (.bool t')/\I.cell? ⟨V,o2+k*4+3,none⟩=some (.slice q' m' d')/\Below wr.heap.size wr I/\wr.heap.size<=I.heap.size)
     (first|with_reducible exact bB |(refine D5 (by with_reducible assumption) ?_;assumption))
     (first
      |(go_at_call 72;refine(HC.1 _ (Cq (by with_reducible assumption))).mono ?_;rintro e w2 ⟨rfl,bC⟩;have aN:=Kh (Below.trans O.1 (Below.mono (Below.trans (Cq (by with_reducible assumption)) (Below.mono bC (Below.size (Cq (by with_reducible assumption))))) O.1.size))))
    go_wp2;go_roundw
    case rel=>exact⟨k+1,by omega,by go_num,aN.1⟩
    case measure=>simp[intOf];omega
   ·obtain rfl:k=n:=by omega
    have O:=Kh J;clear J;go_wp2;go_ret;exact⟨rfl,O.1⟩
theorem F1:(prog.info? 86).map (λi=>(i.zero,i.size,i.bytes))=some (some (.agg #[.bool false,.slice none 0 0,.bool false,.slice none 0 0]),4,64):=by kernel_rfl
theorem fA (s t:Bool) (p q:Option Addr) (n c m d:Nat):∀u∈[Value.bool s,.slice p n c,.bool t,.slice q m d],u.oneCell'=true:=by
 intro u I;simp at I;rcases I with rfl|rfl|rfl|rfl <;> rfl
theorem kF (s t:Bool) (p q:Option Addr) (n c m d:Nat):∀u∈[Value.bool s,.slice p n c,.bool t,.slice q m d],NotInt u:=by
 intro u I;simp at I;rcases I with rfl|rfl|rfl|rfl <;> first|exact NotInt.bool _|exact NotInt.slice _ _ _
theorem iK:∀u∈(Value.agg #[.bool false,.slice none 0 0,.bool false,.slice none 0 0]).cells.toList,NotInt u:=by
 intro u I;simp[Value.cells]at I;rcases I with rfl|rfl|rfl|rfl <;> first|exact NotInt.bool _|exact NotInt.slice _ _ _
def ZE (z:Int) (w:World) (g i:Nat):Prop:=∃s p n c,w.cell? ⟨g,i,none⟩=some (.bool s)/\w.cell? ⟨g,i+1,none⟩=some (.slice p n c)/\Zs w s p n c z
theorem ZE.keep {z:Int} {w w':World} {g i:Nat} (h:ZE z w g i) (I:Below w.heap.size w w'):ZE z w' g i:=by
 obtain⟨s,p,n,c,M,O,U⟩:=h;have J:∀j v,w.cell? ⟨g,j,none⟩=some v->w'.cell? ⟨g,j,none⟩=some v:=λj v e=>(I.cell (p:=⟨g,j,none⟩) (World.block_lt_of_cell? w ⟨g,j,none⟩ e)).trans e
 exact⟨s,p,n,c,J _ _ M,J _ _ O,U.i32 (I32.below I)⟩
def ZL (f:Nat->Int) (w:World) (v:Value) (n:Nat):Prop:=(n=0/\∃a c,v=.slice a 0 c)∨∃g o cap,v=.slice (some ⟨g,o,none⟩) n cap/\g<w.heap.size/\∀j,j<n->ZE (f j) w g (o+j*2)
theorem ZL.keep {f:Nat->Int} {w w':World} {v:Value} {n:Nat} (h:ZL f w v n) (I:Below w.heap.size w w'):ZL f w' v n:=by
 rcases h with h |⟨g,o,cap,e,hg,J⟩
 ·exact .inl h
 ·exact .inr ⟨g,o,cap,e,mI hg I.size,λj M=>(J j M).keep I⟩
structure ZRow (f:Nat->Int) (w:World) (g N k:Nat):Prop where
 sts:Sts w g
 free:∀i,i<N*2->w.frozen? ⟨g,i,none⟩=false
 has:∀i,i<N*2->(w.cell? ⟨g,i,none⟩).isSome=true
 val:∀j,j<k->ZE (f j) w g (j*2)
theorem ZRow.keep {f:Nat->Int} {w w':World} {g N k:Nat} (h:ZRow f w g N k) (I:Below w.heap.size w w'):ZRow f w' g N k:=
 ⟨h.sts.next I,λi J=>Ac I (h.has i J) (h.free i J),λi J=>by rw[I.cell (p:=⟨g,i,none⟩) h.sts.1];exact h.has i J,λj M=>(h.val j M).keep I⟩
theorem ZRow.congr {f I:Nat->Int} {w:World} {g N k:Nat} (h:ZRow f w g N k) (e:∀j,j<k->f j=I j):ZRow I w g N k:=⟨h.sts,h.free,h.has,λj J=>by rw[<-e j J];exact h.val j J⟩
theorem ZRow.set {f:Nat->Int} {w:World} {g N k k':Nat} (h:ZRow f w g N k) (j:Nat) (hj:j<N) (O:Nat->Int) (hk:∀i,i<k'->i≠j->i<k/\f i=O i)
  {s:Bool} {p:Option Addr} {n c:Nat} (hq:Zs w s p n c (O j)):
  ZRow O ((w.setCell ⟨g,j*2,none⟩ (.bool s)).setCell ⟨g,j*2+1,none⟩ (.slice p n c)) g N k':=by
 have J:=I32.put2 h.sts (j*2) (j*2+1) (.bool s) (.slice p n c) (NotInt.bool _);have s1:=h.sts.put ⟨g,j*2,none⟩ (.bool s) (NotInt.bool _);have s2:=s1.put ⟨g,j*2+1,none⟩ (.slice p n c) (NotInt.slice _ _ _);refine⟨s2,λi M=>At (At (h.free i M)),λi M=>Ah (Ah (h.has i M)),λi M=>?_⟩;by_cases hij:i=j
 ·subst hij
  have c0:=h.has (i*2) (by omega);have c1:=Ah (R:=g) (i:=i*2) (u:=.bool s) (h.has (i*2+1) (by omega));refine⟨s,p,n,c,?_,?_,hq.i32 J⟩
  ·rw[World.cell?_setCell_other _ _ _ _ (by simp),World.cell?_setCell_same' _ _ _ c0]
  ·rw[World.cell?_setCell_same' _ _ _ c1]
 ·obtain⟨U,e⟩:=hk i M hij
  obtain⟨s',p',n',V,Y,Z,e4⟩:=h.val i U;rw[<-e]
  have I:∀(x:Nat) (v:Value),i*2<=x->x<i*2+2->w.cell? ⟨g,x,none⟩=some v->((w.setCell ⟨g,j*2,none⟩ (.bool s)).setCell ⟨g,j*2+1,none⟩ (.slice p n c)).cell? ⟨g,x,none⟩=some v:=by
   intro x v aX bA hv;rw[World.cell?_setCell_other _ _ _ _ (by simp <;> omega),World.cell?_setCell_other _ _ _ _ (by simp <;> omega)];exact hv
  exact⟨s',p',n',V,I _ _ (by omega) (by omega) Y,I _ _ (by omega) (by omega) Z,e4.i32 J⟩
def ZX (z:Int) (w:World) (xs:List Value) (i:Nat):Prop:=∃s p n c,xs[i]?=some (.bool s)/\xs[i+1]?=some (.slice p n c)/\Zs w s p n c z
def OwnZ (f:Nat->Int) (w:World) (B:Nat) (v:Value) (n:Nat):Prop:=∃xs,OwnK NotInt w B 84 2 v n xs/\∀j,j<n->ZX (f j) w xs (j*2)
theorem OwnZ.nil (f:Nat->Int) (w:World) (B:Nat):OwnZ f w B (.slice none 0 0) 0:=⟨[],OwnK.nil _ _ _ _ _,λ_ I=>absurd I (Nat.not_lt_zero _)⟩
theorem ZX.i32 {z:Int} {w w':World} (h:I32 w w') {I:List Value} {i:Nat} (U:ZX z w I i):ZX z w' I i:=by
 obtain⟨s,p,n,c,J,M,O⟩:=U;exact⟨s,p,n,c,J,M,O.i32 h⟩
theorem OwnZ.keep {f:Nat->Int} {w w':World} {B n:Nat} {v:Value} (h:OwnZ f w B v n) (I:Below w.heap.size w w'):OwnZ f w' B v n:=by
 obtain⟨U,J,M⟩:=h;exact⟨U,J.keep I,λj O=>(M j O).i32 (I32.below I)⟩
theorem ZX.app {z:Int} {w:World} {I O:List Value} {i:Nat} (h:ZX z w I i):ZX z w (I++O) i:=by
 obtain⟨s,p,n,c,U,V,Y⟩:=h
 have M:∀(j:Nat) (v:Value),I[j]?=some v->(I++O)[j]?=some v:=by
  intro j v e;rw[List.getElem?_append_left]
  ·exact e
  ·rcases Nat.lt_or_ge j I.length with hlt|J
   ·exact hlt
   ·rw[List.getElem?_eq_none J]at e;cases e
 exact⟨s,p,n,c,M _ _ U,M _ _ V,Y⟩
theorem OwnZ.push {f:Nat->Int} {W w':World} {B n:Nat} {v U:Value} {J:List Value} (M:OwnK NotInt W B 84 2 v n J) (V:∀j,j<n->ZX (f j) W J (j*2))
  {s:Bool} {p:Option Addr} {k c:Nat} (hq:Zs W s p k c (f n)) (Y:OwnK NotInt w' B 84 2 U (n+1) (J++[.bool s,.slice p k c])) (hg:W.grownBy w' v.ownBlock):OwnZ f w' B U (n+1):=by
 have I:=I32.grown (K:=NotInt) (λx=>Fv x) M.2 hg;refine⟨_,Y,λj Z=>?_⟩;by_cases hjn:j<n
 ·exact((V j hjn).i32 I).app
 ·obtain rfl:j=n:=by omega
  have O:J.length=j*2:=M.1.1;refine⟨s,p,k,c,?_,?_,hq.i32 I⟩
  ·rw[List.getElem?_append_right (by omega),O,show j*2 - j*2=0 by omega];rfl
  ·rw[List.getElem?_append_right (by omega),O,show j*2+1 - j*2=1 by omega];rfl
theorem OwnZ.row {f:Nat->Int} {w:World} {B n:Nat} {v:Value} (h:OwnZ f w B v n):(n=0/\v=.slice none 0 0)∨∃g cap,v=.slice (some ⟨g,0,none⟩) n cap/\B<=g/\ZRow f w g n n:=by
 obtain⟨M,I,Y⟩:=h;rcases Dk I.1 with⟨rfl,rfl,_⟩ |⟨g,cap,rfl,hB,hg,hc⟩
 ·exact .inl ⟨rfl,rfl⟩
 ·right
  have hl:M.length=n*2:=I.1.1;have hs:=I.2 g rfl;refine⟨g,cap,rfl,hB,⟨hs,?_,?_,?_⟩⟩
  ·intro i hi
   rcases Mc I.1 with J |⟨g',cs,J,_,Z⟩
   ·simp[Value.ownBlock]at J
   ·simp[Value.ownBlock]at J
    subst J;exact Z.free_ i
  ·intro i hi
   rw[Aq I.1 (List.getElem?_eq_getElem (by omega:i<M.length))];rfl
  ·intro j hj
   obtain⟨s,p,n',c,O,U,V⟩:=Y j hj;exact⟨s,p,n',c,Aq I.1 O,Aq I.1 U,V⟩
theorem Vh:(prog.info? 84).map (λi=>(i.zero,i.size,i.bytes))=some (some (.agg #[.bool false,.slice none 0 0]),2,32):=by kernel_rfl
theorem kG:∀u∈(Value.agg #[.bool false,.slice none 0 0]).cells.toList,NotInt u:=by
 intro u I;simp[Value.cells]at I;rcases I with rfl|rfl <;> first|exact NotInt.bool _|exact NotInt.slice _ _ _
end
def lin (a b:Int) (p:Nat->Int):Nat->Int:=λj=>(if 0<j then a*p (j - 1)else 0)+b*p j
def mv (i:Nat) (a b c d:Int):Nat->Nat->Int
 | 0=>λj=>if j=0 then 1 else 0
 | k+1=>if k<i then lin a b (mv i a b c d k)else lin c d (mv i a b c d k)
theorem I8 (i:Nat) (a b c d:Int) (k j:Nat) (h:k<j):mv i a b c d k j=0:=by
 induction k generalizing j with
 | zero=>show(if j=0 then(1:Int)else 0)=0;rw[if_neg (by omega)]
 | succ k ih=>
  rw[mv];split <;>(unfold lin;rw[ih j (by omega),ih (j - 1) (by omega)];simp)
theorem G9:nd 1=1:=by
 have I:=Bo.2 (show(1:Nat)≠0 by decide);have J:=(Be (v:=1) (k:=1)).2 (by decide);omega
theorem O9 (a b:Int) (p:Nat->Int) (K:Nat) (J:nd a.natAbs<=2) (M:nd b.natAbs<=2) (I:∀j,nd (p j).natAbs<=K) (j:Nat):nd (lin a b p j).natAbs<=K+3:=by
 unfold lin;refine mH (Gl _ _ (K:=K+2) ?_ ?_) (by omega)
 ·split
  ·rw[Int.natAbs_mul];have:=Cd a.natAbs (p (j - 1)).natAbs;have:=I (j - 1);omega
  ·rw[show(0:Int).natAbs=0 from rfl,Du];omega
 ·rw[Int.natAbs_mul];have:=Cd b.natAbs (p j).natAbs;have:=I j;omega
theorem Sj (i:Nat) (a b c d:Int) (I:nd a.natAbs<=2) (J:nd b.natAbs<=2) (M:nd c.natAbs<=2) (O:nd d.natAbs<=2) (k j:Nat):nd (mv i a b c d k j).natAbs<=1+3*k:=by
 induction k generalizing j with
 | zero=>
  show nd (if j=0 then(1:Int)else 0).natAbs<=1;split
  ·exact Nat.le_of_eq G9
  ·rw[show(0:Int).natAbs=0 from rfl,Du];omega
 | succ k ih=>
  rw[mv];split
  ·exact O9 a b _ _ I J ih j
  ·exact O9 c d _ _ M O ih j
def sumQ (f:Nat->Rat):Nat->Rat
 | 0=>0
 | n+1=>sumQ f n+f n
def subst (q:Nat->Rat) (w:Nat) (a b c d:Int) (n j:Nat):Rat:=sumQ (λi=>q i*(mv i a b c d w j:Int)) n
theorem Gj (z:Int):hq (z:Rat)=max (nd z.natAbs) 1:=by
 unfold hq;rw[Rat.num_intCast,Rat.den_intCast,G9]
theorem Dm (f:Nat->Rat) (K:Nat) (n:Nat) (h:∀i,i<n->hq (f i)<=K):hq (sumQ f n)<=1+n*(K+1):=by
 induction n with
 | zero=>show hq (0:Rat)<=_;simp[hq,Du,G9]
 | succ n ih=>
  rw[sumQ,Nat.succ_mul];have I:=ih (λi O=>h i (by omega));have J:=Nc (sumQ f n) (f n);have M:=h n (by omega);omega
theorem cJ (q:Rat) (a b:Int) (p:Nat->Int) (j:Nat):q*(lin a b p j:Int)=(if 0<j then(a:Rat)*(q*(p (j - 1):Int))else 0)+(b:Rat)*(q*(p j:Int)):=by
 unfold lin;split <;> simp <;> grind
end Go.Proofs.YtenlbhlllgppmaaGreatDoor
