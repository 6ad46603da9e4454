/- Reduction by Gauss and Jordan: column by column, each pivot's column cleared in all rows. How large the entries are, and that the pivots and the reduced rows are those of the elimination with sparse rows. No program in sight. -/
import Derived.Test.YtenlbhlllgppmaaGreatDoorC25
set_option linter.unusedSimpArgs false
set_option maxRecDepth 100000
set_option maxHeartbeats 8000000
namespace Go.Proofs.YtenlbhlllgppmaaGreatDoor
open Tryz
namespace Eli
open Tryz
open Sie
structure GjAt (n B:Nat) (rows:Nat->Nat->Int) (m c:Nat) (ld:Nat->Bool) (L:Nat->Nat->Rat) (R:Nat->Nat->Int) (O:Nat->Nat->Rat) (A:(Nat->Rat)->Prop):Prop where
 inv:Inv B ld L R
 lt:∀p,ld p=true->p<c
 le:c<=n
 sp:∀p,ld p=true->RSp rows m (L p)
 outs:∀p,ld p=true->Sp ld L c (O p)/\O p p=1/\∀p',ld p'=true->p'≠p->O p p'=0
 rest:∀a,A a->(∀q,q<c->a q=0)/\∃i,i<m/\∃u,Sp ld L c u/\∀q,(rows i q:Rat)=a q+u q
 all:∀i,i<m->∃a u,(A a∨∀q,a q=0)/\Sp ld L c u/\∀q,(rows i q:Rat)=a q+u q
def unitQ (j q:Nat):Rat:=if q=j then 1 else 0
def unitZ (j q:Nat):Int:=if q=j then 1 else 0
theorem GjAt.start {n B m:Nat} {rows:Nat->Nat->Int} (hB:1<=B):GjAt n B rows m 0 (λ_=>false) unitQ unitZ (λ_ _=>0) (λa=>∃i,i<m/\∀q,a q=(rows i q:Rat)) where
 inv:=by
  constructor
  ·intro j q hq;rw[unitQ,if_neg (by omega)]
  ·intro j;rw[unitQ,if_pos rfl]
  ·intro j _ q;rfl
  ·intro j _ q;rfl
  ·intro p E;cases E
  ·intro p q;rw[unitZ];split
   ·exact hB
   ·exact Nat.zero_le _
 lt:=λp E=>by cases E
 le:=Nat.zero_le _
 sp:=λp E=>by cases E
 outs:=λp E=>by cases E
 rest:=λa ⟨i,I,J⟩=>⟨λq hq=>absurd hq (Nat.not_lt_zero _),i,I,λ_=>0,Sp.nil _ _ _,λq=>by rw[J];grind⟩
 all:=λi I=>⟨λq=>(rows i q:Rat),λ_=>0,.inl ⟨i,I,λ_=>rfl⟩,Sp.nil _ _ _,λq=>by grind⟩
section
variable {n B m c:Nat} {rows:Nat->Nat->Int} {ld:Nat->Bool} {L:Nat->Nat->Rat} {R:Nat->Nat->Int} {O:Nat->Nat->Rat} {A:(Nat->Rat)->Prop}
theorem GjAt.skip (h:GjAt n B rows m c ld L R O A) (hc:c<n) (U:∀a,A a->a c=0):GjAt n B rows m (c+1) ld L R O A where
 inv:=h.inv
 lt:=λp E=>Nat.lt_succ_of_lt (h.lt p E)
 le:=hc
 sp:=h.sp
 outs:=λp E=>⟨(h.outs p E).1.mono (Nat.le_succ _),(h.outs p E).2⟩
 rest:=λa M=>by
  obtain⟨I,i,J,u,hu,he⟩:=h.rest a M;refine⟨λq hq=>?_,i,J,u,hu.mono (Nat.le_succ _),he⟩;by_cases e:q=c
  ·rw[e];exact U a M
  ·exact I q (by omega)
 all:=λi J=>by
  obtain⟨a,u,I,V,Z⟩:=h.all i J;exact⟨a,u,I,V.mono (Nat.le_succ _),Z⟩
theorem GjAt.same_rest (h:GjAt n B rows m c ld L R O A) {A':(Nat->Rat)->Prop} (V:∀a,A' a->∃b,A b/\∀q,a q=b q) (Z:∀a,A a->∃b,A' b/\∀q,b q=a q):GjAt n B rows m c ld L R O A' where
 inv:=h.inv
 lt:=h.lt
 le:=h.le
 sp:=h.sp
 outs:=h.outs
 rest:=λa ha=>by
  obtain⟨b,I,e⟩:=V a ha;obtain⟨E,i,J,u,hu,he⟩:=h.rest b I;exact⟨λq hq=>by rw[e];exact E q hq,i,J,u,hu,λq=>by rw[e];exact he q⟩
 all:=λi J=>by
  obtain⟨a,u,E,M,U⟩:=h.all i J;rcases E with E|E
  ·obtain⟨b,I,e⟩:=Z a E
   exact⟨b,u,.inl I,M,λq=>by rw[e];exact U q⟩
  ·exact⟨a,u,.inr E,M,U⟩
theorem GjAt.rest_sp (h:GjAt n B rows m c ld L R O A) {u:Nat->Rat} (I:Sp ld L c u):RSp rows m u:=RSp.of_sp I (λj _ E=>h.sp j E)
theorem GjAt.pivot (h:GjAt n B rows m c ld L R O A) (hb:∀i q,(rows i q).natAbs<=B) (hc:c<n) {r:Nat->Rat} (hr:A r) (h0:r c≠0) {A':(Nat->Rat)->Prop} {O':Nat->Nat->Rat} {ld':Nat->Bool}
  (cA:∀j,ld' j=(ld j||decide (j=c)))
  (h1:∀a',A' a'->∃a,A a/\∀q,a' q=a q+-(a c)*(1 / r c*r q)) (h2:∀a,A a->(∀q,a q=r q)∨∃a',A' a'/\∀q,a' q=a q+-(a c)*(1 / r c*r q))
  (hO:∀q,O' c q=1 / r c*r q) (bY:∀p,ld p=true->∀q,O' p q=O p q+-(O p c)*(1 / r c*r q)):
  ∃L' R',GjAt n B rows m (c+1) ld' L' R' O' A':=by
 obtain⟨hz,i0,gA,u0,dE,cS⟩:=h.rest r hr
 have eT:ld c=false:=by
  cases e:ld c with
  | false=>rfl
  | true=>exact absurd (h.lt c e) (Nat.lt_irrefl _)
 have cB:ld' c=true:=by rw[cA,decide_eq_true rfl,Bool.or_true]
 have M:∀j,j≠c->ld' j=ld j:=λj J=>by rw[cA,decide_eq_false J,Bool.or_false]
 have gF:∀j,ld j=true->ld' j=true:=λj J=>by rw[cA,J,Bool.true_or]
 obtain⟨pv,E⟩:∃pv:Nat->Rat,∀q,pv q=1 / r c*r q:=⟨λq=>1 / r c*r q,λ_=>rfl⟩
 have aN:∀q,q<c->pv q=0:=λq hq=>by rw[E,hz q hq];grind
 have bE:pv c=1:=by rw[E];grind
 have cX:∀q,r q=r c*pv q:=λq=>by rw[E];grind
 obtain⟨L',cM⟩:∃L':Nat->Nat->Rat,L'=λj=>if j=c then pv else L j:=⟨_,rfl⟩
 have aD:L' c=pv:=by rw[cM];exact if_pos rfl
 have Z:∀j,j≠c->L' j=L j:=λj J=>by rw[cM];exact if_neg J
 have U:∀t u,Sp ld L t u->Sp ld' L' t u:=λt u hu=>hu.turn λj _ J=>by
  have aK:j≠c:=λe=>by rw[e,eT]at J;cases J
  exact⟨gF j J,Z j aK⟩
 have bA:∀u,Sp ld L c u->Sp ld' L' (c+1) u:=λu hu=>(U _ _ hu).mono (Nat.le_succ _)
 have I:Sp ld' L' (c+1) pv:=aD▸Sp.lead (nO _) cB
 have dC:RSp rows m pv:=by
  have V:RSp rows m (λq=>(rows i0 q:Rat)+(-1)*u0 q):=(RSp.row gA).combine (-1) (h.rest_sp dE);exact((RSp.nil rows m).combine (1 / r c) V).congr (λq=>by rw[E,cS];grind)
 refine⟨L',λj=>if j=c then rows i0 else R j,?_⟩;constructor
 ·constructor
  ·intro j q hq
   by_cases e:j=c
   ·rw[e,aD];exact aN q (by omega)
   ·rw[Z j e];exact h.inv.low j q hq
  ·intro j
   by_cases e:j=c
   ·rw[e,aD];exact bE
   ·rw[Z j e];exact h.inv.one j
  ·intro j J q
   have e:j≠c:=λe=>by rw[e,cB]at J;cases J
   rw[Z j e];exact h.inv.free j (by rw[<-M j e];exact J) q
  ·intro j J q
   have e:j≠c:=λe=>by rw[e,cB]at J;cases J
   simp only[if_neg e];exact h.inv.rfree j (by rw[<-M j e];exact J) q
  ·intro p hp
   by_cases e:p=c
   ·subst e
    refine⟨r p,h0,u0,U _ _ dE,λq=>?_⟩;rw[if_pos rfl,cS,aD,<-cX]
   ·obtain⟨s,V,u,hu,he⟩:=h.inv.got p (by rw[<-M p e];exact hp)
    refine⟨s,V,u,U _ _ hu,λq=>?_⟩;rw[if_neg e,Z p e];exact he q
  ·intro p q
   show((if p=c then rows i0 else R p) q).natAbs<=B;split
   ·exact hb i0 q
   ·exact h.inv.bound p q
 ·intro p hp
  by_cases e:p=c
  ·omega
  ·exact Nat.lt_succ_of_lt (h.lt p (by rw[<-M p e];exact hp))
 ·exact hc
 ·intro p hp
  by_cases e:p=c
  ·rw[e,aD];exact dC
  ·rw[Z p e];exact h.sp p (by rw[<-M p e];exact hp)
 ·intro p hp
  by_cases e:p=c
  ·rw[e]
   refine⟨I.congr (λq=>by rw[hO,E]),by rw[hO,<-E];exact bE,λp' cD aK=>?_⟩;rw[hO,<-E];exact aN p' (h.lt p' (by rw[<-M p' aK];exact cD))
  ·have aX:ld p=true:=by rw[<-M p e];exact hp
   obtain⟨V,h4,h5⟩:=h.outs p aX;have hlt:=h.lt p aX;refine⟨((bA _ V).combine (-(O p c)) I).congr (λq=>by rw[bY p aX,E]),?_,λp' cD aK=>?_⟩
   ·rw[bY p aX,<-E,aN p hlt,h4];grind
   ·rw[bY p aX,<-E]
    by_cases e2:p'=c
    ·rw[e2,bE];grind
    ·have cT:ld p'=true:=by rw[<-M p' e2];exact cD
     rw[aN p' (h.lt p' cT),h5 p' cT aK];grind
 ·intro a' eP
  obtain⟨a,ha,ea⟩:=h1 a' eP;obtain⟨V,i,hi,u,hu,he⟩:=h.rest a ha;refine⟨λq hq=>?_,i,hi,_,(bA _ hu).combine (a c) I,λq=>?_⟩
  ·rw[ea,<-E]
   by_cases e:q=c
   ·rw[e,bE];grind
   ·rw[aN q (by omega),V q (by omega)];grind
  ·rw[he,ea,E];grind
 ·intro i hi
  obtain⟨a,u,V,h4,h5⟩:=h.all i hi;rcases V with V|V
  ·rcases h2 a V with h6 |⟨a',h6,h7⟩
   ·refine⟨λ_=>0,_,.inr (λ_=>rfl),(bA _ h4).combine (r c) I,λq=>?_⟩
    rw[h5,h6,cX];grind
   ·refine⟨a',_,.inl h6,(bA _ h4).combine (a c) I,λq=>?_⟩
    rw[h5,h7,E];grind
  ·exact⟨a,u,.inr V,bA _ h4,h5⟩
theorem Ny (n B:Nat):1<=top n B:=by
 rw[top];refine Bs.2 ?_;have h:0<cap n B:=Nat.pow_pos (Nat.succ_pos _);omega
theorem GjAt.rest_size (h:GjAt n B rows m c ld L R O A) (Z:∀i q,(rows i q).natAbs<=B) {a:Nat->Rat} (V:A a) (q:Nat):hq (a q)<=top n B:=by
 obtain⟨J,i,hi,u,hu,he⟩:=h.rest a V;obtain⟨k,N,I,E,U,M⟩:=h.inv.height (rows i) (Z i) a c u hu he J;rw[Dy I (M q)];exact C9 I (Je h.le (U _)) (Fw h.le E)
theorem RSp.high {u:Nat->Rat} (I:RSp rows m u) (E:∀i q,n<=q->rows i q=0) (q:Nat) (hq:n<=q):u q=0:=by
 obtain⟨z,J⟩:=I;rw[J];exact A7 (λi _=>by rw[E i q hq];have:((0:Int):Rat)=0:=rfl;rw[this];grind)
theorem GjAt.unit (h:GjAt n B rows m c ld L R O A) (M:∀i q,n<=q->rows i q=0) {p:Nat} (I:ld p=true) (q:Nat):unitQ p q=sumQ (λf=>(if ld f then 0 else -(O p f))*L f q) n+O p q:=by
 obtain⟨U,V,Z⟩:=h.outs p I;have aD:p<n:=nN (h.lt p I) h.le;rw[unitQ];by_cases hqn:q<n
 ·have J:sumQ (λf=>(if ld f then 0 else -(O p f))*L f q) n=(if ld q then 0 else -(O p q)):=by
   rw[A6 hqn (λi _ E=>?_)]
   ·cases hl:ld q with
    | true=>simp
    | false=>rw[h.inv.one];simp
   ·cases hl:ld i with
    | true=>simp
    | false=>rw[h.inv.free i hl,show(if q=i then(1:Rat)else 0)=0 from if_neg (λe=>E e.symm)];exact Rat.mul_zero _
  rw[J];cases hl:ld q with
  | true=>
   by_cases e:q=p
   ·rw[if_pos e,e,V];simp;grind
   ·rw[if_neg e,Z q hl e];simp;grind
  | false=>
   have e:q≠p:=λe=>by rw[e,I]at hl;cases hl
   rw[if_neg e];simp;grind
 ·rw[if_neg (by omega),RSp.high (h.rest_sp U) M q (by omega),A7 (λi hi=>?_)]
  ·grind
  ·cases hl:ld i with
   | true=>simp
   | false=>rw[h.inv.free i hl,show(if q=i then(1:Rat)else 0)=0 from if_neg (by omega)];exact Rat.mul_zero _
theorem GjAt.out_size (h:GjAt n B rows m c ld L R O A) (hB:1<=B) (I:∀i q,n<=q->rows i q=0) {p:Nat} (U:ld p=true) (q:Nat):hq (O p q)<=top n B:=by
 obtain⟨J,V,Z⟩:=h.outs p U;by_cases hqn:q<n
 ·cases hl:ld q with
  | true=>
   by_cases e:q=p
   ·rw[e,V,Xq];exact Ny n B
   ·rw[Z q hl e,Nd];exact Ny n B
  | false=>
   obtain⟨k,N,M,E,hN,hE⟩:=h.inv.coords (unitZ p) (λq=>by rw[unitZ];split <;> simp <;> omega) n (λf=>-(O p f)) (O p) (J.mono h.le) (λq=>by
    rw[<-h.unit I U q,unitZ,unitQ];split <;> rfl)
   have h4:=hE q hqn hl;rw[<-Kg,Dy M h4];exact C9 M (Fw (nL _) (hN q hqn)) (Fw (nL _) E)
 ·rw[RSp.high (h.rest_sp J) I q (by omega),Nd];exact Ny n B
theorem GjAt.done (h:GjAt n B rows m c ld L R O A) (J:∀i q,n<=q->rows i q=0) (I:c=n∨∀a,¬A a) (i:Nat) (hi:i<m):Sp ld L n (λq=>(rows i q:Rat)):=by
 obtain⟨a,u,E,M,U⟩:=h.all i hi;refine(M.mono h.le).congr (λq=>?_)
 have Z:a q=0:=by
  rcases E with E|E
  ·rcases I with I|I
   ·by_cases hq:q<n
    ·exact(h.rest a E).1 q (by omega)
    ·have V:=U q
     rw[J i q (by omega),RSp.high (h.rest_sp M) J q (by omega)]at V;have:((0:Int):Rat)=0:=rfl;rw[this]at V;grind
   ·exact absurd E (I a)
  ·exact E q
 rw[U,Z];grind
end
end Eli
end Go.Proofs.YtenlbhlllgppmaaGreatDoor
namespace Go.Proofs.YtenlbhlllgppmaaGreatDoor
open Tryz
open Go.RowKit Eli
def pvs (ld:Nat->Bool) (c:Nat):List Nat:=(List.range c).filter ld
theorem Pu (ld:Nat->Bool) (c:Nat):pvs ld (c+1)=if ld c then pvs ld c++[c]else pvs ld c:=by
 rw[pvs,List.range_succ,List.filter_append,List.filter_cons];cases ld c with
 | true=>rfl
 | false=>exact List.append_nil _
theorem Vh {ld ld':Nat->Bool} {c:Nat} (h:∀j,j<c->ld' j=ld j):pvs ld' c=pvs ld c:=List.filter_congr (λj E=>h j (List.mem_range.1 E))
theorem Tc {ld:Nat->Bool} {c p:Nat}:p∈pvs ld c↔p<c/\ld p=true:=by rw[pvs,List.mem_filter,List.mem_range]
def W8 (pv:Nat->Rat) (c:Nat) (x:Nat->Rat):Nat->Rat:=λq=>x q+-(x c)*pv q
theorem OwnG.all {l:List (Nat->Rat)} {N:Nat} {w:World} {B:Nat} {v:Value} {I:List Value} (M:OwnK SliceV w B 30 1 v l.length I) (O:∀(j:Nat) x,l[j]?=some x->∃vr,I[j]?=some vr/\RowV x N w vr):∀u∈I,SliceV u:=by
 intro u V;obtain⟨j,U,e⟩:=List.getElem_of_mem V;have Z:I.length=l.length:=by have:=M.1.1;omega
 obtain⟨vr,E,⟨p,c,J⟩,_⟩:=O j l[j] (List.getElem?_eq_getElem (by omega));rw[List.getElem?_eq_getElem U,e]at E;injection E with E
 exact⟨p,N,c,E.trans J⟩
theorem SliceV.one {u:Value} (h:SliceV u):u.oneCell'=true:=by
 obtain⟨p,n,c,rfl⟩:=h;rfl
theorem OwnG.val {l:List (Nat->Rat)} {N:Nat} {w:World} {B:Nat} {v:Value} (h:OwnG l N w B v):∃p c,v=.slice p l.length c:=by
 obtain⟨I,E,_⟩:=h;exact Bg E.1
theorem OwnN.val {l:List Nat} {w:World} {B:Nat} {v:Value} (h:OwnN l w B v):∃p c,v=.slice p l.length c:=Bg h.1
theorem OwnG.base {l:List (Nat->Rat)} {N:Nat} {w:World} {B B':Nat} {v:Value} (h:OwnG l N w B v) (hB:B'<=B):OwnG l N w B' v:=by
 obtain⟨O,E,M⟩:=h;refine⟨O,⟨⟨E.1.1,?_⟩,E.2⟩,M⟩;rcases E.1.2 with h |⟨J,cap,cs,e,I,hr⟩
 ·exact .inl h
 ·exact .inr ⟨J,cap,cs,e,nM hB I,hr⟩
theorem OwnG.ge {l:List (Nat->Rat)} {N:Nat} {w:World} {B g:Nat} {v:Value} (h:OwnG l N w B v) (e:v.ownBlock=some g):B<=g/\g<w.heap.size:=by
 obtain⟨I,E,_⟩:=h;exact⟨Cl E.1 e.symm,(E.2 g e).1⟩
theorem OwnN.ge {l:List Nat} {w:World} {B g:Nat} {v:Value} (h:OwnN l w B v) (e:v.ownBlock=some g):B<=g/\g<w.heap.size:=⟨Cl h.1 e.symm,(h.2 g e).1⟩
theorem OwnK.but {K:Value->Prop} {w w':World} {B E sz n:Nat} {v:Value} {M:List Value} {R:Option Nat} (h:OwnK K w B E sz v n M) (hg:w.grownBy w' R) (I:∀g,v.ownBlock=some g->R≠some g):OwnK K w' B E sz v n M:=by
 refine⟨h.1.kept hg ?_,λg e=>?_⟩
 ·cases hv:v.ownBlock with
  | none=>exact .inl rfl
  | some g=>exact .inr (λe=>I g hv e.symm)
 ·have J:=h.2 g e
  have U:=hg.block g J.1 (λO=>I g e O.symm);exact⟨nN J.1 hg.size,λi u V=>J.2 i u ((World.cell?_of_block (a:=⟨g,i,none⟩) U).symm.trans V)⟩
theorem OwnG.but {l:List (Nat->Rat)} {N:Nat} {w w':World} {B:Nat} {v:Value} {R:Option Nat} (h:OwnG l N w B v) (O:∀r,R=some r->Stk SliceV w r) (hg:w.grownBy w' R) (E:I32 w w') (I:∀g,v.ownBlock=some g->R≠some g):OwnG l N w' B v:=by
 obtain⟨V,J,M⟩:=h;exact⟨V,J.but hg I,λj x U=>by obtain⟨vr,e,hr⟩:=M j x U;exact⟨vr,e,hr.grown O hg E⟩⟩
end Go.Proofs.YtenlbhlllgppmaaGreatDoor
namespace Go.Proofs.YtenlbhlllgppmaaGreatDoor
open Tryz
open Go.RowKit
namespace Eli
open Tryz
def inF (F:Nat->Nat->Rat) (a m:Nat):(Nat->Rat)->Prop:=λx=>∃i,a<=i/\i<m/\∀q,x q=F i q
structure GridAt (n B:Nat) (rows:Nat->Nat->Int) (m c t:Nat) (F:Nat->Nat->Rat) (ld:Nat->Bool) (L:Nat->Nat->Rat) (R:Nat->Nat->Int) (O:Nat->Nat->Rat):Prop where
 gj:GjAt n B rows m c ld L R O (inF F t m)
 len:(pvs ld c).length=t
 lo:∀k p,(pvs ld c)[k]?=some p->∀q,F k q=O p q
 le:t<=m
def lI {α:Type} (F:Nat->α) (a b:Nat):Nat->α:=λi=>if i=a then F b else if i=b then F a else F i
def Rn (x:Nat->Rat) (c:Nat):Nat->Rat:=λq=>1 / x c*x q
def Pt (F:Nat->Nat->Rat) (t:Nat) (f:Nat->Rat):Nat->Nat->Rat:=λi=>if i=t then f else F i
def jY (F:Nat->Nat->Rat) (pv:Nat->Rat) (c t k:Nat):Nat->Nat->Rat:=λi=>if i<k/\i≠t then W8 pv c (F i)else F i
section
variable {n B m c t:Nat} {rows:Nat->Nat->Int} {F:Nat->Nat->Rat} {ld:Nat->Bool} {L:Nat->Nat->Rat} {R:Nat->Nat->Int} {O:Nat->Nat->Rat}
theorem GridAt.start (hB:1<=B) (hF:∀i q,F i q=(rows i q:Rat)):GridAt n B rows m 0 0 F (λ_=>false) unitQ unitZ (λ_ _=>0) where
 gj:=(GjAt.start hB).same_rest (λa ⟨i,_,E,e⟩=>⟨_,⟨i,E,λ_=>rfl⟩,λq=>by rw[e,hF]⟩) (λa ⟨i,I,e⟩=>⟨F i,⟨i,Nat.zero_le _,I,λ_=>rfl⟩,λq=>by rw[e,hF]⟩)
 len:=rfl
 lo:=λk p h=>by simp[pvs]at h
 le:=Nat.zero_le _
theorem GridAt.skip (h:GridAt n B rows m c t F ld L R O) (M:c<n) (E:∀i,t<=i->i<m->F i c=0):GridAt n B rows m (c+1) t F ld L R O:=by
 have e:pvs ld (c+1)=pvs ld c:=by rw[Pu,if_neg (λU=>by have:=h.gj.lt c U;omega)]
 exact⟨h.gj.skip M (λa ⟨i,I,J,e⟩=>by rw[e];exact E i I J),by rw[e];exact h.len,by rw[e];exact h.lo,h.le⟩
theorem GridAt.zero (h:GridAt n B rows m c t F ld L R O) {i:Nat} (E:t<=i) (I:i<m) (q:Nat) (hq:q<c):F i q=0:=(h.gj.rest (F i) ⟨i,E,I,λ_=>rfl⟩).1 q hq
theorem GridAt.size (h:GridAt n B rows m c t F ld L R O) (hB:1<=B) (J:∀i q,(rows i q).natAbs<=B) (I:∀i q,n<=q->rows i q=0) {i:Nat} (M:i<m) (q:Nat):hq (F i q)<=top n B:=by
 by_cases hit:i<t
 ·have E:i<(pvs ld c).length:=by rw[h.len];exact hit
  have e:=List.getElem?_eq_getElem E;rw[h.lo i _ e];exact h.gj.out_size hB I (Tc.1 (List.getElem_mem E)).2 q
 ·exact h.gj.rest_size J ⟨i,by omega,M,λ_=>rfl⟩ q
theorem GridAt.pivot (h:GridAt n B rows m c t F ld L R O) (hb:∀i q,(rows i q).natAbs<=B) (hc:c<n) {s:Nat} (hs:t<=s) (V:s<m) (h0:F s c≠0):
  ∃ld' L' R' O',GridAt n B rows m (c+1) (t+1) (jY (Pt (lI F t s) t (Rn (F s) c)) (Rn (F s) c) c t m) ld' L' R' O'/\pvs ld' (c+1)=pvs ld c++[c]:=by
 obtain⟨M,J⟩:∃M,M=jY (Pt (lI F t s) t (Rn (F s) c)) (Rn (F s) c) c t m:=⟨_,rfl⟩
 have k1:∀i,i<m->i≠t->i≠s->M i=W8 (Rn (F s) c) c (F i):=λi Z E h3=>by
  rw[J,jY,if_pos ⟨Z,E⟩,Pt,if_neg E,lI,if_neg E,if_neg h3]
 have k2:s≠t->M s=W8 (Rn (F s) c) c (F t):=λE=>by
  rw[J,jY,if_pos ⟨V,E⟩,Pt,if_neg E,lI,if_neg E,if_pos rfl]
 have k3:M t=Rn (F s) c:=by rw[J,jY,if_neg (λh=>h.2 rfl),Pt,if_pos rfl]
 have aN:∀j,j<c->(ld j||decide (j=c))=ld j:=λj hj=>by rw[decide_eq_false (by omega),Bool.or_false]
 rw[<-J]
 obtain⟨L',R',hg⟩:=h.gj.pivot hb hc (r:=F s) ⟨s,hs,V,λ_=>rfl⟩ h0 (A':=inF M (t+1) m) (O':=λp=>if p=c then Rn (F s) c else W8 (Rn (F s) c) c (O p)) (ld':=λj=>ld j||decide (j=c)) (λ_=>rfl)
  (λa' ⟨i,Z,E,e⟩=>by
   by_cases his:i=s
   ·subst his
    exact⟨F t,⟨t,nL _,by omega,λ_=>rfl⟩,λq=>by rw[e,k2 (by omega),W8,Rn]⟩
   ·exact⟨F i,⟨i,by omega,E,λ_=>rfl⟩,λq=>by rw[e,k1 i E (by omega) his,W8,Rn]⟩)
  (λa ⟨i,Z,E,e⟩=>by
   by_cases his:i=s
   ·subst his;exact .inl e
   ·right
    by_cases hit:i=t
    ·exact⟨M s,⟨s,by omega,V,λ_=>rfl⟩,λq=>by rw[k2 (by omega),W8,Rn,e,e,hit]⟩
    ·exact⟨M i,⟨i,by omega,E,λ_=>rfl⟩,λq=>by rw[k1 i E hit his,W8,Rn,e,e]⟩)
  (λq=>by simp[Rn]) (λp hp q=>by
   have:p≠c:=by have:=h.gj.lt p hp;omega
   simp only[if_neg this];rw[W8,Rn])
 have U:pvs (λj=>ld j||decide (j=c)) (c+1)=pvs ld c++[c]:=by
  rw[Pu,if_pos (by simp),Vh aN]
 refine⟨_,L',R',_,⟨hg,by rw[U,List.length_append,h.len];rfl,λk p I q=>?_,by omega⟩,U⟩;rw[U]at I;by_cases hkt:k<t
 ·rw[List.getElem?_append_left (by rw[h.len];exact hkt)]at I
  have:p≠c:=by have:=(Tc.1 (List.mem_of_getElem? I)).1;omega
  rw[k1 k (by omega) (by omega) (by omega)];simp only[if_neg this];rw[W8,W8,h.lo k p I,h.lo k p I]
 ·rw[List.getElem?_append_right (by rw[h.len];omega),h.len]at I
  have aX:k - t=0:=by
   rcases Nat.eq_zero_or_pos (k - t)with Z|Z
   ·exact Z
   ·rw[List.getElem?_eq_none (by rw[List.length_singleton];omega)]at I;cases I
  rw[aX]at I;injection I with I
  obtain rfl:k=t:=by omega
  rw[k3,<-I];simp
end
end Eli
open Eli
structure GM (F:Nat->Nat->Rat) (m C:Nat) (w:World) (G:Nat) (gs:Nat->Nat) (B:Nat):Prop where
 stk:Stk SliceV w G
 free:∀i,w.frozen? ⟨G,i,none⟩=false
 hB:B<=G
 at_:∀i,i<m->w.cell? ⟨G,i,none⟩=some (.slice (some ⟨gs i,0,none⟩) C C)
 row:∀i,i<m->QRow (λq=>IsQ (F i q)) w (gs i) C C
 ge:∀i,i<m->B<=gs i
 ne:∀i,i<m->gs i≠G
 inj:∀i j,i<m->j<m->gs i=gs j->i=j
section
variable {F:Nat->Nat->Rat} {m C:Nat} {w:World} {G:Nat} {gs:Nat->Nat} {B:Nat}
theorem GM.keep {w':World} (h:GM F m C w G gs B) (E:Below w.heap.size w w'):GM F m C w' G gs B:=
 ⟨h.stk.next E,λi=>(World.frozen?_of_block (a:=⟨G,i,none⟩) (E.block G h.stk.1)).trans (h.free i),h.hB,λi I=>Ad E (h.at_ i I),λi I=>(h.row i I).keep (λ_=>IsQ.solid _) E,h.ge,h.ne,h.inj⟩
theorem GM.congr {E:Nat->Nat->Rat} (h:GM F m C w G gs B) (e:∀i q,i<m->q<C->E i q=F i q):GM E m C w G gs B:=
 ⟨h.stk,h.free,h.hB,h.at_,λi I=>(h.row i I).congr (λq hq=>by rw[e i q I hq]),h.ge,h.ne,h.inj⟩
theorem GM.elem (h:GM F m C w G gs B) {i q:Nat} (E:i<m) (hq:q<C):QE (IsQ (F i q)) w (gs i) (q*4):=(h.row i E).val q hq
theorem GM.put {w':World} (h:GM F m C w G gs B) {i:Nat} (U:i<m) {f:Nat->Rat} (hr:QRow (λq=>IsQ (f q)) w' (gs i) C C) (hg:w.grownBy w' (some (gs i))) (J:I32 w w'):GM (Pt F i f) m C w' G gs B:=by
 have M:(some G:Option Nat)≠some (gs i):=λe=>h.ne i U (by injection e with e;exact e.symm)
 have E:w'.heap[G]?=w.heap[G]?:=hg.block G h.stk.1 M;refine⟨⟨nN h.stk.1 hg.size,λk v Z=>h.stk.2 k v ((World.cell?_of_block (a:=⟨G,k,none⟩) E).symm.trans Z)⟩,λk=>(World.frozen?_of_block (a:=⟨G,k,none⟩) E).trans (h.free k),h.hB,λk I=>hg.cell (h.at_ k I) M,λk I=>?_,h.ge,h.ne,h.inj⟩;by_cases e:k=i
 ·subst e
  simp only[Pt,if_pos];exact hr
 ·simp only[Pt,if_neg e]
  exact(h.row k I).i32 (λ_=>IsQ.solid _) J hg (λV=>e (h.inj k i I U V))
theorem GM.more (h:GM F m C w G gs B) {g:Nat} (_hs:(w.cell? ⟨G,m,none⟩).isSome=true) (hr:QRow (λq=>IsQ (F m q)) w g C C) (hg:B<=g) (M:g≠G) (J:∀i,i<m->gs i≠g) (V:w.cell? ⟨G,m,none⟩=some (.slice (some ⟨g,0,none⟩) C C)):
  GM F (m+1) C w G (λi=>if i=m then g else gs i) B:=by
 have I:∀i,i<m+1->i≠m->i<m:=λi Z h2=>by omega
 refine⟨h.stk,h.free,h.hB,λi E=>?_,λi E=>?_,λi E=>?_,λi E=>?_,λi j E U e=>?_⟩
 ·by_cases e:i=m
  ·rw[if_pos e,e];exact V
  ·rw[if_neg e];exact h.at_ i (I i E e)
 ·by_cases e:i=m
  ·rw[if_pos e,e];exact hr
  ·rw[if_neg e];exact h.row i (I i E e)
 ·by_cases e:i=m
  ·rw[if_pos e];exact hg
  ·rw[if_neg e];exact h.ge i (I i E e)
 ·by_cases e:i=m
  ·rw[if_pos e];exact M
  ·rw[if_neg e];exact h.ne i (I i E e)
 ·by_cases e1:i=m
  ·by_cases e2:j=m
   ·omega
   ·rw[if_pos e1,if_neg e2]at e
    exact absurd e.symm (J j (I j U e2))
  ·by_cases e2:j=m
   ·rw[if_neg e1,if_pos e2]at e
    exact absurd e (J i (I i E e1))
   ·rw[if_neg e1,if_neg e2]at e
    exact h.inj i j (I i E e1) (I j U e2) e
theorem GM.but {w':World} {R:Nat} (h:GM F m C w G gs B) (M:I32 w w') (hg:w.grownBy w' (some R)) (V:G≠R) (U:∀i,i<m->gs i≠R):GM F m C w' G gs B:=by
 have E:(some G:Option Nat)≠some R:=λe=>V (by injection e)
 have I:w'.heap[G]?=w.heap[G]?:=hg.block G h.stk.1 E;exact⟨⟨nN h.stk.1 hg.size,λk v Z=>h.stk.2 k v ((World.cell?_of_block (a:=⟨G,k,none⟩) I).symm.trans Z)⟩,λk=>(World.frozen?_of_block (a:=⟨G,k,none⟩) I).trans (h.free k),h.hB,λk J=>hg.cell (h.at_ k J) E,λk J=>(h.row k J).i32 (λ_=>IsQ.solid _) M hg (U k J),h.ge,h.ne,h.inj⟩
end
section
variable {P:Program} {md:Region.Mode} {ops:Array Oper} {Q:Exit->Act->World->Prop} {S:World->Prop} {X:List Nat}
def Bw (ops:Array Oper) (X:List Nat) (listed:Array Bool):Bool:=(List.range ops.size).all λk=>listed.getD k true||X.contains k
theorem Kf {E:Array Bool} {i:Nat} (I:X.contains i=true):Bw ops X (E.setIfInBounds i true)=Bw ops X E:=by
 unfold Bw;congr 1;funext k;by_cases e:k=i
 ·subst e;rw[I,Bool.or_true,Bool.or_true]
 ·rw[getD_set_ne true (λh=>e h.symm)]
theorem L9 {E:Array Bool} {k:Nat} (M:k<ops.size) (J:X.contains k=false) (h:E.getD k true=false):Bw ops X E=false:=by
 cases e:Bw ops X E with
 | false=>rfl
 | true=>
  rw[Bw,List.all_eq_true]at e;have I:=e k (List.mem_range.2 M);rw[h,J]at I;cases I
def aA (md:Region.Mode) (ops:Array Oper) (X:List Nat) (listed:Array Bool) (i:Nat):Bool:=
 (List.range ops.size).any λk=>k != i && !(listed.getD k true) && !X.contains k&&match ops[k]? with
  | some o=>o.after.any λe=>Region.binds md e&&e.on==i
  | none=>false
def wpX (P:Program) (md:Region.Mode) (ops:Array Oper) (Q:Exit->Act->World->Prop) (S:World->Prop) (X:List Nat):Nat->Array Bool->Act->World->Prop
 | 0,listed,a,w=>Region.ready md ops listed=[]/\Q .normal a w
 | n+1,listed,a,w=>(Region.ready md ops listed=[]->Q .normal a w) /\
  ∀i∈Region.ready md ops listed,wpOp P ops Q i (λa' w'=>(Bw ops X (listed.setIfInBounds i true)=false->S w')/\wpX P md ops Q S X n (listed.setIfInBounds i true) a' w') a w
theorem wpX.any:∀(n:Nat) (E:Array Bool) (a:Act) (w:World),wpX P md ops Q S X n E a w->wpAny P md ops Q n E a w
 | 0,_,_,_,h=>h
 | n+1,_,_,_,h=>⟨h.1,λi M=>wpOp_mono (λI w' J=>wpX.any n _ I w' J.2) (h.2 i M)⟩
theorem wpX.first {T:World->Prop} {i:Nat} {oi:Oper} {v:Value} (hi:ops[i]?=some oi)
  (V:∀(j:Nat) (o:Oper) cs b,ops[j]?=some o->o.op≠.select cs b) (hQ:∀c a w,Q (.panic c) (a.put oi.dst v) w->Q (.panic c) a w) (I:Array Bool->Prop)
  (hI:∀l j,I l->j≠i->j∈Region.ready md ops l->I (l.setIfInBounds j true)) (hF:∀l,I l->(Bw ops X (l.setIfInBounds i true)=false->∀w,S w->T w)/\(Bw ops X l=false->Bw ops X (l.setIfInBounds i true)=false)/\(Bw ops X l=true->∀w,T w)):
  ∀(n:Nat) (E:Array Bool) (a:Act) (w:World),I E ->
   (∀j oj,ops[j]?=some oj->j≠i->E.getD j true=false->(∀e∈oj.after,Region.binds md e=true->e.on≠i)->oi.apart ops oj=true) ->
   i∈Region.ready md ops E->YieldsIf P ops T oi v a->(Bw ops X E=false->S w) ->
   wpX P md ops Q S X n (E.setIfInBounds i true) (a.put oi.dst v) w->wpX P md ops Q S X (n+1) E a w:=by
 have bC:∀l w,I l->(Bw ops X l=false->S w)->T w:=λl w hl h=>by
  cases e:Bw ops X l with
  | true=>exact(hF l hl).2.2 e w
  | false=>exact(hF l hl).1 ((hF l hl).2.1 e) w (h e)
 have bB:∀l w,I l->(Bw ops X l=false->S w)->Bw ops X (l.setIfInBounds i true)=false->S w:=λl w hl h M=>by
  cases e:Bw ops X l with
  | false=>exact h e
  | true=>
   rw[Bw,List.all_eq_true]at e;unfold Bw at M;rw[List.all_eq_false]at M;obtain⟨k,hk,U⟩:=M;have h4:=e k hk;exfalso;apply U;by_cases hki:k=i
   ·subst hki
    rcases Nat.lt_or_ge k l.size with h5|h5
    ·simp[h5]
    ·simp[h5]
   ·rw[getD_set_ne true (λh=>hki h.symm)];exact h4
 intro n;induction n with
 | zero=>
  intro E a w J _ hr hy hS H;refine⟨(λh=>by rw[h]at hr;cases hr),λj hj=>?_⟩;by_cases hji:j=i
  ·subst hji;exact hy.wpOp hi (bC _ _ J hS) ⟨bB _ _ J hS,H⟩
  ·have h1:=ready_mono hj hji
   rw[H.1]at h1;cases h1
 | succ n ih=>
  intro E a w J O hr hy hS H;refine⟨(λh=>by rw[h]at hr;cases hr),λj hj=>?_⟩;by_cases hji:j=i
  ·subst hji;exact hy.wpOp hi (bC _ _ J hS) ⟨bB _ _ J hS,H⟩
  have h1:=H.2 j (ready_mono hj hji);obtain⟨cA,oj,Z,bE⟩:=mem_ready.1 hj
  have cM:E.getD i false=false:=by
   have h0:=(mem_ready.1 hr).1;rcases Nat.lt_or_ge i E.size with M|M
   ·simp[M]at h0 ⊢;exact h0
   ·simp[Array.getElem?_eq_none M]
  have cS:∀e∈oj.after,Region.binds md e=true->e.on≠i:=λe he hb M=>by
   have U:=bE e he hb;rw[M,cM]at U;cases U
  have M:=wpOp_putIf Z (O j oj Z hji cA cS) (λcs b=>V i oi cs b hi) (λcs b=>V j oj cs b Z) hQ hy h1;refine wpOp_mono (λa' w' U=>?_) M;have aN:=hI E j J hji hj;have bA:Bw ops X (E.setIfInBounds j true)=false->S w':=λe=>U.2.1 (by rw[Array.setIfInBounds_comm _ _ (Ne.symm hji)];exact(hF _ aN).2.1 e)
  refine⟨bA,ih _ a' w' aN (λq oq hq cT cB cX=>O q oq hq cT ?_ cX) (ready_mono hr (Ne.symm hji)) U.1 bA ?_⟩
  ·by_cases hjq:j=q
   ·subst hjq;exact cA
   ·rw[getD_set_ne true hjq]at cB;exact cB
  ·rw[Array.setIfInBounds_comm _ _ hji]
   exact U.2.2
theorem R3 {E:Array Bool} {i:Nat} (h:aA md ops X E i=true):∃k I,ops[k]?=some I/\k≠i/\E.getD k true=false/\X.contains k=false/\∃e∈I.after,Region.binds md e=true/\e.on=i:=by
 rw[aA,List.any_eq_true]at h;obtain⟨k,_,h⟩:=h;cases hk:ops[k]? with
 | none=>rw[hk]at h;simp at h
 | some o=>
  rw[hk]at h;simp only[Bool.and_eq_true,bne_iff_ne,ne_eq,Bool.not_eq_true',beq_iff_eq,Array.any_eq_true']at h;obtain⟨⟨⟨M,O⟩,J⟩,e,U,V,Z⟩:=h;exact⟨k,o,hk,M,O,J,e,U,V,Z⟩
theorem kX (X:List Nat) {id:Nat} {a:Act} {w:World} (S:World->Prop) (E:∀W,Below w.heap.size w W->S W) (h:Hd (∀W,Below w.heap.size w W->S W)->S w.drew->wpX P .any ops Q S X ops.size (Array.replicate ops.size false) a w.drew) (I:P.follows .mixedOrders=true:=by kernel_rfl):(Code.region id ops true).wp P Q a w:=
 wp_region_any I (wpX.any _ _ _ _ (h (Kh E) (E _ (Below.refl _ w).drew)))
theorem Dh (i:Nat) {U:Oper} {v:Value} {n d:Nat} {E:Array Bool} {a a':Act} {w:World} (h:wpX P md ops Q S X n (E.setIfInBounds i true) a' w)
  (hi:ops[i]?=some U:=by rfl) (hS:S w:=by assumption) (hw:Region.wanted U (yielded ops a.tmps)=true:=by rfl)
  (hy:∀w,S w->(execOp a.eval U).run P w=.ok (.value v) w:=by intro w aD;(try dsimp only at aD);go_simp;(try with_reducible rfl))
  (hd:U.dst=some d:=by rfl) (ha:a.put (some d) v=a':=by(try simp only[Act.put,List.setIfInBounds_toArray,List.set_cons_zero,List.set_cons_succ]);rfl)
  (hs:Region.noSelect ops=true:=by kernel_rfl) (hf:Region.free md ops E i=true:=by kernel_rfl) (hr:(Region.ready md ops E).contains i=true:=by kernel_rfl) (hk:aA md ops X E i=true:=by kernel_rfl)
  (hQ:∀c a w,Q (.panic c) (a.put U.dst v) w->Q (.panic c) a w:=by exact λ_ _ _ h=>h):wpX P md ops Q S X (n+1) E a w:=by
 subst ha;rw[<-hd]at h;obtain⟨k,ok,Z,h2,h3,h0,e0,aN,aK,bB⟩:=R3 hk;have O:k<ops.size:=(Array.getElem?_eq_some_iff.1 Z).1;refine wpX.first (T:=S) hi (Region.noSelect_spec hs) hQ (λl=>l.getD k true=false/\l.getD i false=false) (λl j J aX hj=>?_) (λl J=>?_) n E a w ⟨h3,?_⟩ (Region.free_spec hi hf) (by simpa using hr) (.inl ⟨hw,hy⟩) (λ_=>hS) h
 ·obtain⟨_,oj,bC,M⟩:=mem_ready.1 hj
  refine⟨?_,?_⟩
  ·have bA:j≠k:=λV=>by
    subst V;rw[bC]at Z;cases Z;have I:=M e0 aN aK;rw[bB,J.2]at I;cases I
   rw[getD_set_ne true bA];exact J.1
  ·rw[getD_set_ne false aX];exact J.2
 ·have hn:Bw ops X l=false:=L9 O h0 J.1
  exact⟨λ_ w h=>h,λ_=>L9 O h0 (by rw[getD_set_ne true h2.symm];exact J.1),λh=>by rw[hn]at h;cases h⟩
 ·have bE:i∈Region.ready md ops E:=by simpa using hr
  have V:=(mem_ready.1 bE).1;rcases Nat.lt_or_ge i E.size with I|I
  ·simp[I]at V ⊢;exact V
  ·simp[Array.getElem?_eq_none I]
theorem mX (i:Nat) {I:Oper} {v:Value} {n d:Nat} {E:Array Bool} {a J:Act} {w:World} (h:wpX P md ops Q S X n (E.setIfInBounds i true) J w)
  (M:ops[i]?=some I:=by rfl) (U:S w:=by assumption) (hw:Region.wanted I (yielded ops a.tmps)=true:=by rfl)
  (hy:∀w,(execOp a.eval I).run P w=.ok (.value v) w:=by intro w;go_simp;(try with_reducible rfl))
  (hd:I.dst=some d:=by rfl) (Z:a.put (some d) v=J:=by(try simp only[Act.put,List.setIfInBounds_toArray,List.set_cons_zero,List.set_cons_succ]);rfl)
  (hs:Region.noSelect ops=true:=by kernel_rfl) (hf:Region.free md ops E i=true:=by kernel_rfl) (hr:(Region.ready md ops E).contains i=true:=by kernel_rfl) (V:X.contains i=true:=by kernel_rfl)
  (O:∀c a w,Q (.panic c) (a.put I.dst v) w->Q (.panic c) a w:=by exact λ_ _ _ h=>h):wpX P md ops Q S X (n+1) E a w:=by
 subst Z;rw[<-hd]at h;exact wpX.first (T:=λ_=>True) M (Region.noSelect_spec hs) O (λ_=>True) (λ_ _ _ _ _=>trivial) (λl _=>⟨λ_ _ _=>trivial,λh=>by rw[Kf V];exact h,λ_ _=>trivial⟩) n E a w trivial (Region.free_spec M hf) (by simpa using hr) (.inl ⟨hw,λw _=>hy w⟩) (λ_=>U) h
theorem lB (i:Nat) {o:Oper} {n:Nat} {E:Array Bool} {a:Act} {w:World}
  (U:ops[i]?=some o) (h:∀I:Act->World->Prop,Shut (∀a w,S w->(S w->wpX P md ops Q S X n (E.setIfInBounds i true) a w)->I a w)->if Region.wanted o (yielded ops a.tmps)=true then Oper.wp P o a w I Q else I (a.put o.dst undef) w)
  (hr:Region.ready md ops E=[i]:=by kernel_rfl):wpX P md ops Q S X (n+1) E a w:=by
 refine⟨(λe=>by rw[hr]at e;cases e),λj M=>?_⟩;rw[hr,List.mem_singleton]at M;subst M;refine wpOp_step U λI hK=>?_
 exact h I λa w J O=>hK a w ⟨λ_=>J,O J⟩
theorem kV (i j:Nat) {O U:Oper} {n:Nat} {E:Array Bool} {a:Act} {w:World} (Z:ops[i]?=some O) (h:ops[j]?=some U)
  (hi:∀I:Act->World->Prop,Shut (∀a w,S w->(S w->wpX P md ops Q S X n (E.setIfInBounds i true) a w)->I a w)->if Region.wanted O (yielded ops a.tmps)=true then Oper.wp P O a w I Q else I (a.put O.dst undef) w)
  (hj:∀I:Act->World->Prop,Shut (∀a w,S w->(S w->wpX P md ops Q S X n (E.setIfInBounds j true) a w)->I a w)->if Region.wanted U (yielded ops a.tmps)=true then Oper.wp P U a w I Q else I (a.put U.dst undef) w)
  (hr:Region.ready md ops E=[i,j]:=by kernel_rfl):wpX P md ops Q S X (n+1) E a w:=by
 refine⟨(λe=>by rw[hr]at e;cases e),λk M=>?_⟩;rw[hr]at M;have M:k=i∨k=j:=by simpa using M
 rcases M with rfl|rfl
 ·refine wpOp_step Z λI hK=>?_
  exact hi I λa w J V=>hK a w ⟨λ_=>J,V J⟩
 ·refine wpOp_step h λI hK=>?_
  exact hj I λa w J V=>hK a w ⟨λ_=>J,V J⟩
theorem mU (i:Nat) {o:Oper} {n:Nat} {E:Array Bool} {a:Act} {w:World}
  (O:ops[i]?=some o) (h:∀I:Act->World->Prop,Shut (∀a w,Q .normal a w->I a w)->if Region.wanted o (yielded ops a.tmps)=true then Oper.wp P o a w I Q else I (a.put o.dst undef) w)
  (hr:Region.ready md ops E=[i]:=by kernel_rfl)
  (hn:Region.ready md ops (E.setIfInBounds i true)=[]:=by kernel_rfl) (M:Bw ops X (E.setIfInBounds i true)=true:=by kernel_rfl):wpX P md ops Q S X (n+1) E a w:=by
 refine⟨(λe=>by rw[hr]at e;cases e),λj J=>?_⟩;rw[hr,List.mem_singleton]at J;subst J;refine wpOp_step O λI hK=>?_
 refine h I λa w hq=>hK a w ⟨(λe=>by rw[M]at e;cases e),?_⟩
 cases n with
 | zero=>exact⟨hn,hq⟩
 | succ n=>exact⟨λ_=>hq,λj J=>by rw[hn]at J;cases J⟩
theorem dW (i:Nat) {I:Oper} {v:Value} {n d:Nat} {E:Array Bool} {a J:Act} {w:World} (h:wpX P md ops Q S X n (E.setIfInBounds i true) J w)
  (M:ops[i]?=some I:=by rfl) (hl:Bw ops X E=true:=by kernel_rfl) (hw:Region.wanted I (yielded ops a.tmps)=true:=by rfl)
  (hy:∀w,(execOp a.eval I).run P w=.ok (.value v) w:=by intro w;go_simp;(try with_reducible rfl))
  (Z:I.dst=some d:=by rfl) (V:a.put (some d) v=J:=by(try simp only[Act.put,List.setIfInBounds_toArray,List.set_cons_zero,List.set_cons_succ]);rfl)
  (hs:Region.noSelect ops=true:=by kernel_rfl) (hf:Region.free md ops E i=true:=by kernel_rfl) (hr:(Region.ready md ops E).contains i=true:=by kernel_rfl) (U:X.contains i=true:=by kernel_rfl)
  (O:∀c a w,Q (.panic c) (a.put I.dst v) w->Q (.panic c) a w:=by exact λ_ _ _ h=>h):wpX P md ops Q S X (n+1) E a w:=by
 subst V;rw[<-Z]at h;exact wpX.first (T:=λ_=>True) M (Region.noSelect_spec hs) O (λ_=>True) (λ_ _ _ _ _=>trivial) (λl _=>⟨λ_ _ _=>trivial,λh=>by rw[Kf U];exact h,λ_ _=>trivial⟩) n E a w trivial (Region.free_spec M hf) (by simpa using hr) (.inl ⟨hw,λw _=>hy w⟩) (λe=>by rw[hl]at e;cases e) h
theorem kZ (i:Nat) {o:Oper} {n:Nat} {E:Array Bool} {a:Act} {w:World}
  (U:ops[i]?=some o) (h:∀I:Act->World->Prop,Shut (∀a w,wpX P md ops Q S X n (E.setIfInBounds i true) a w->I a w)->if Region.wanted o (yielded ops a.tmps)=true then Oper.wp P o a w I Q else I (a.put o.dst undef) w)
  (hr:Region.ready md ops E=[i]:=by kernel_rfl) (O:Bw ops X (E.setIfInBounds i true)=true:=by kernel_rfl):wpX P md ops Q S X (n+1) E a w:=by
 refine⟨(λe=>by rw[hr]at e;cases e),λj J=>?_⟩;rw[hr,List.mem_singleton]at J;subst J;refine wpOp_step U λI hK=>?_
 exact h I λa w M=>hK a w ⟨(λe=>by rw[O]at e;cases e),M⟩
theorem kA {n:Nat} {E:Array Bool} {a:Act} {w:World} (h:Q .normal a w) (hr:Region.ready md ops E=[]:=by kernel_rfl):wpX P md ops Q S X n E a w:=by
 cases n with
 | zero=>exact⟨hr,h⟩
 | succ n=>exact⟨λ_=>h,λj I=>by rw[hr]at I;cases I⟩
end
end Go.Proofs.YtenlbhlllgppmaaGreatDoor
namespace Go.Proofs.YtenlbhlllgppmaaGreatDoor
open Tryz
open Go.RowKit Eli
theorem Lu (s:Bool) (p:Option Addr) (n c:Nat) (t:Bool) (q:Option Addr) (m d:Nat) (x:Rat) (w:World) (h:Qs w s p n c t q m d x) (Z:hq x<=1000000000000):
  Calls prog 121 #[.agg #[.bool s,.slice p n c,.bool t,.slice q m d]] w λe w'=>e=.returned (.bool (!decide (x=0)))/\Below w.heap.size w w':=by
 have U:=Kh h;clear h;go_enter func121,ntmps121
 go_wp2_with fail
 obtain⟨w0,M,V,E⟩:=bx1 w #[.bool s,.slice p n c,.bool t,.slice q m d] 86;rw[M];refine(Wz s p n c t q m d x w0 (U.1.keep E) Z).mono ?_;rintro e w1 ⟨⟨sg,rfl,I⟩,J⟩;have O:=Kh (E.trans (J.mono E.size))
 have hv:(sg != 0) = !decide (x=0):=by
  by_cases e:x=0
  ·rw[decide_eq_true e,I.2 e];rfl
  ·rw[decide_eq_false e,Bool.not_false,bne_iff_ne];exact λh=>e (I.1 h)
 clear V E M J I;go_wp2;go_ret;exact⟨rfl,O.1⟩
def divQ (F:Nat->Rat) (x:Rat) (k:Nat):Nat->FP:=λj=>IsQ (if j<k then 1 / x*F j else F j)
theorem divQ.done {F:Nat->Rat} {x:Rat} {k:Nat} {w:World} {g N:Nat} (h:QRow (divQ F x k) w g N N) (E:F k=0):QRow (divQ F x (k+1)) w g N N:=
 QRow.congr h (λj _=>by
  unfold divQ;by_cases hj:j<k
  ·rw[if_pos hj,if_pos (by omega)]
  ·rw[if_neg hj]
   by_cases hj2:j=k
   ·rw[if_pos (by omega),hj2,E,Rat.mul_zero]
   ·rw[if_neg (by omega)])
theorem divQ.put {F:Nat->Rat} {x:Rat} {k:Nat} {w:World} {g N:Nat} (h:QRow (divQ F x k) w g N N) (I:k<N) {s:Bool} {p:Option Addr} {n c:Nat} {t:Bool} {q:Option Addr} {m d:Nat} (hq:Qs w s p n c t q m d (F k / x)):
  QRow (divQ F x (k+1)) ((((w.setCell ⟨g,k*4,none⟩ (.bool s)).setCell ⟨g,k*4+1,none⟩ (.slice p n c)).setCell ⟨g,k*4+2,none⟩ (.bool t)).setCell ⟨g,k*4+3,none⟩ (.slice q m d)) g N N:=
 QRow.set (λ_=>IsQ.solid _) h k I _ (IsQ.solid _) (λi E J=>⟨E,by
  unfold divQ;by_cases hj:i<k
  ·rw[if_pos hj,if_pos (by omega)]
  ·rw[if_neg hj,if_neg (by omega)]⟩) (show IsQ (if k<k+1 then 1 / x*F k else F k) w s p n c t q m d by rw[if_pos (nO k),show 1 / x*F k=F k / x by grind];exact hq)
theorem divQ.elem {F:Nat->Rat} {x:Rat} {k:Nat} {w:World} {g N:Nat} (h:QRow (divQ F x k) w g N N) (I:k<N):QE (IsQ (F k)) w g (k*4):=by
 have E:=QRow.val h k I;unfold divQ at E;rw[if_neg (Nat.lt_irrefl k)]at E;exact E
theorem GM.base {F:Nat->Nat->Rat} {m C:Nat} {w:World} {G:Nat} {gs:Nat->Nat} {B B':Nat} (h:GM F m C w G gs B) (hB:B'<=B):GM F m C w G gs B':=
 ⟨h.stk,h.free,nM hB h.hB,h.at_,h.row,λi E=>nM hB (h.ge i E),h.ne,h.inj⟩
theorem GM.made (F:Nat->Nat->Rat) (C:Nat) (w:World) (R:Nat) (gs:Nat->Nat):GM F 0 C (w.alloc (.cells (madeCells #[.slice none 0 0] R) 30)) w.heap.size gs w.heap.size/\∀i,i<R->((w.alloc (.cells (madeCells #[.slice none 0 0] R) 30)).cell? ⟨w.heap.size,i,none⟩).isSome=true:=by
 have h:=RowTab.made F C w R;exact⟨⟨h.stk,λi=>(Blk.new w 30 (madeCells #[.slice none 0 0] R)).free_ i,nL _,λi E=>absurd E (Nat.not_lt_zero _),λi E=>absurd E (Nat.not_lt_zero _),λi E=>absurd E (Nat.not_lt_zero _),λi E=>absurd E (Nat.not_lt_zero _),λi j E=>absurd E (Nat.not_lt_zero _)⟩,h.has⟩
theorem gX (n:Nat) (h:n<=1000000) (w:World):
  (Instr.makeSlice 118 (.int .i64 (n:Int)) (.int .i64 (n:Int))).run prog w=.ok (.slice (some ⟨w.heap.size,0,none⟩) n n) (w.alloc (.cells (madeCells #[.slice none 0 0] n) 30)):=by
 obtain⟨i,M,E,I,J⟩:=info_parts Hj;have hr:=run_make (P:=prog) w 118 30 i _ underlying118 M E .i64 .i64 n n (by omega) (Int.le_refl _) (by rw[J];omega) (by omega);rw[Int.toNat_natCast,I,Nat.mul_one]at hr;exact hr
theorem I4 (n:Nat) (w:World) (hn:n<=1024):Calls prog 54 #[.int .i64 n] w λe w'=>e=.returned (.bool true)/\Below w.heap.size w w':=by
 have E:(0:Int)<=(n:Int):=by omega
 have I:(n:Int)<=1024:=by omega
 go_enter func54,ntmps54
 go_wp2;go_ret;exact⟨rfl,Below.refl _ _⟩
theorem aZ (R C O:Nat) (pA:Option Addr) (cA:Nat) (w:World) (hR:R<=1024) (hC:C<=1024) (I:R*C=O):Calls prog 69 #[.agg #[.int .i64 R,.int .i64 C,.slice pA O cA]] w λe w'=>e=.returned (.bool true)/\Below w.heap.size w w':=by
 have bC:O<=1048576:=by rw[<-I];exact Nat.mul_le_mul hR hC
 have aX:(R:Int)*(C:Int)=(O:Nat):=by rw[<-I];push_cast;rfl
 clear I;go_enter func69,ntmps69
 go_wp2_with fail
 obtain⟨w0,U,h,J⟩:=bx1 w #[.int .i64 R,.int .i64 C,.slice pA O cA] 32;rw[U];refine(I4 R w0 hR).mono ?_;rintro e w1 ⟨rfl,E⟩;have V:=h.below_ E h.lt;have x1:=V.at_ 1 rfl;go_wp2_with fail
 refine(I4 C w1 hC).mono ?_;rintro e w2 ⟨rfl,M⟩;have Z:=V.below_ M V.lt;have y0:=Z.at_ 0 rfl;have y1:=Z.at_ 1 rfl;have y2:=Z.at_ 2 rfl;have HB:=Kh (J.trans ((E.trans (M.mono E.size)).mono J.size));clear U h J E M V Z x1;go_wp2;go_ret;exact⟨rfl,HB.1⟩
theorem kD (p:Option Addr) (n c:Nat):∀u∈[Value.slice p n c],u.oneCell'=true:=by intro u E;simp at E;subst E;rfl
theorem lX (p:Option Addr) (n c:Nat):∀u∈[Value.slice p n c],SliceV u:=by intro u E;simp at E;subst E;exact⟨p,n,c,rfl⟩
theorem lW:∀u∈(Value.slice none 0 0).cells.toList,SliceV u:=by
 intro u E;simp[Value.cells]at E;exact⟨none,0,0,E⟩
def RowsOwn (F:Nat->Nat->Rat) (k C:Nat) (w:World) (B:Nat) (v:Value):Prop:=
 ∃gs:Nat->Nat,OwnK SliceV w B 30 1 v k ((List.range k).map λi=>Value.slice (some ⟨gs i,0,none⟩) C C)/\∀i,i<k->QRow (λq=>IsQ (F i q)) w (gs i) C C
theorem RowsOwn.keep {F:Nat->Nat->Rat} {k C:Nat} {w w':World} {B:Nat} {v:Value} (h:RowsOwn F k C w B v) (E:Below w.heap.size w w'):RowsOwn F k C w' B v:=by
 obtain⟨gs,I,J⟩:=h;exact⟨gs,I.keep E,λi M=>(J i M).keep (λ_=>IsQ.solid _) E⟩
theorem RowsOwn.nil (F:Nat->Nat->Rat) (C:Nat) (w:World) (B:Nat):RowsOwn F 0 C w B (.slice none 0 0):=⟨λ_=>0,OwnK.nil _ _ _ _ _,λ_ E=>absurd E (Nat.not_lt_zero _)⟩
theorem QRow.not_sv {F:Nat->FP} {w:World} {g C r:Nat} (h:QRow F w g C C) (J:0<C) (M:Stk SliceV w r):g≠r:=λe=>by
 obtain⟨s,p,n,c,t,q,m,d,E,_⟩:=h.val 0 J;rw[e]at E;obtain⟨p',U,O,I⟩:=M.2 _ _ E;cases I
theorem RowsOwn.push {F:Nat->Nat->Rat} {k C:Nat} {W w':World} {B:Nat} {v U:Value} {gs:Nat->Nat} {g:Nat} (Z:0<C) (J:OwnK SliceV W B 30 1 v k ((List.range k).map λi=>Value.slice (some ⟨gs i,0,none⟩) C C))
  (M:∀i,i<k->QRow (λq=>IsQ (F i q)) W (gs i) C C) (hr:QRow (λq=>IsQ (F k q)) W g C C) (V:OwnK SliceV w' B 30 1 U (k+1) (((List.range k).map λi=>Value.slice (some ⟨gs i,0,none⟩) C C)++[.slice (some ⟨g,0,none⟩) C C])) (hg:W.grownBy w' v.ownBlock):RowsOwn F (k+1) C w' B U:=by
 have E:=I32.grownS J hg;have I:∀i b,QRow (λq=>IsQ (F i q)) W b C C->some b≠v.ownBlock:=λi b h e=>h.not_sv Z (J.2 b e.symm) rfl
 refine⟨λi=>if i<k then gs i else g,?_,λi O=>?_⟩
 ·have e:((List.range (k+1)).map λi=>Value.slice (some ⟨if i<k then gs i else g,0,none⟩) C C)=((List.range k).map λi=>Value.slice (some ⟨gs i,0,none⟩) C C)++[.slice (some ⟨g,0,none⟩) C C]:=by
   rw[List.range_succ,List.map_append,List.map_singleton,if_neg (Nat.lt_irrefl k)];congr 1;exact List.map_congr_left (λi O=>by rw[if_pos (List.mem_range.1 O)])
  rw[e];exact V
 ·by_cases hlt:i<k
  ·dsimp only
   rw[if_pos hlt];exact(M i hlt).grown (λ_=>IsQ.solid _) E hg (I i _ (M i hlt))
  ·obtain rfl:i=k:=by omega
   dsimp only;rw[if_neg hlt];exact hr.grown (λ_=>IsQ.solid _) E hg (I i _ hr)
def RowsIn (F:Nat->Nat->Rat) (k C:Nat) (w:World) (v:Value):Prop:=∃G c,v=.slice (some ⟨G,0,none⟩) k c/\G<w.heap.size/\∀i,i<k->∃g,w.cell? ⟨G,i,none⟩=some (.slice (some ⟨g,0,none⟩) C C)/\QRow (λq=>IsQ (F i q)) w g C C
theorem RowsIn.keep {F:Nat->Nat->Rat} {k C:Nat} {w w':World} {v:Value} (h:RowsIn F k C w v) (E:Below w.heap.size w w'):RowsIn F k C w' v:=by
 obtain⟨G,c,e,I,M⟩:=h;refine⟨G,c,e,nN I E.size,λi U=>?_⟩;obtain⟨g,J,O⟩:=M i U;exact⟨g,(E.cell (p:=⟨G,i,none⟩) I).trans J,O.keep (λ_=>IsQ.solid _) E⟩
end Go.Proofs.YtenlbhlllgppmaaGreatDoor
namespace Go.Proofs.YtenlbhlllgppmaaGreatDoor
open Tryz
open Go.RowKit
def Nh (n u v s:Nat):Bool:=(Nat.gcd s n==1)&&(decide (s*u % n<u)||(decide (s*u % n=u)&&decide (s*v % n<v)))
theorem Yb {n u v A B:Nat} (J:v<n) (hB:B<n):u*n+v<=A*n+B↔¬(A<u∨A=u/\B<v):=by
 constructor
 ·rintro h (E |⟨rfl,E⟩)
  ·have I:(A+1)*n<=u*n:=Nat.mul_le_mul_right _ E
   rw[Nat.add_mul,Nat.one_mul]at I;omega
  ·omega
 ·intro h
  rcases Nat.lt_trichotomy A u with E|E|E
  ·exact absurd (.inl E) h
  ·subst E
   have:v<=B:=by
    rcases Nat.lt_or_ge B v with I|I
    ·exact absurd (.inr ⟨rfl,I⟩) h
    ·exact I
   omega
  ·have I:(u+1)*n<=A*n:=Nat.mul_le_mul_right _ E
   rw[Nat.add_mul,Nat.one_mul]at I;omega
theorem Uy {n u v:Nat} (hu:u<n) (M:v<n):(∀s,2<=s->s<n->Nh n u v s=false)↔Fj n (u*n+v)=true:=by
 have hn:0<n:=by omega
 have hd:(u*n+v) / n=u:=by rw[Nat.mul_comm,Nat.mul_add_div hn,Nat.div_eq_of_lt M,Nat.add_zero]
 have hm:(u*n+v) % n=v:=by rw[Nat.mul_comm,Nat.mul_add_mod,Nat.mod_eq_of_lt M]
 have Z:∀s,Az n s (u*n+v)=s*u % n*n+s*v % n:=λs=>by unfold Az;rw[hd,hm]
 have hlt:u*n+v<n*n:=by
  have:(u+1)*n<=n*n:=Nat.mul_le_mul_right _ hu;rw[Nat.add_mul,Nat.one_mul]at this;omega
 rw[Cs];constructor
 ·intro h s U V E
  rcases Nat.eq_or_lt_of_le U with rfl|h4
  ·rw[Kp hlt];exact nL _
  ·rcases Nat.eq_or_lt_of_le V with rfl|h5
   ·exfalso
    unfold pun at E;simp only[beq_iff_eq,Nat.gcd_self]at E;omega
   ·have J:=h s h4 h5
    unfold Nh at J;unfold pun at E;rw[E,Bool.true_and]at J;rw[Z,Yb M (Nat.mod_lt _ hn)];intro I
    have O:(decide (s*u % n<u)||(decide (s*u % n=u)&&decide (s*v % n<v)))=true:=by
     rcases I with I |⟨I,O⟩
     ·simp[I]
     ·simp[I,O]
    rw[O]at J;cases J
 ·intro h s U V
  unfold Nh;cases hg:(Nat.gcd s n==1)with
  | false=>rfl
  | true=>
   have E:=h s (by omega) (by omega) hg;rw[Z,Yb M (Nat.mod_lt _ hn)]at E;rw[Bool.true_and];cases hb:(decide (s*u % n<u)||(decide (s*u % n=u)&&decide (s*v % n<v)))with
   | false=>rfl
   | true=>
    exfalso;apply E;simp only[Bool.or_eq_true,Bool.and_eq_true,decide_eq_true_eq]at hb;exact hb
theorem Zf {n k:Nat} (hn:0<n) (E:k<n*n):pts n (k+1)=if E5 n k&&Fj n k then pts n k++[k]else pts n k:=by
 rw[B8 hn (k+1) E,B8 hn k (by omega),List.range_succ,List.filter_append];cases hc:(E5 n k&&Fj n k)with
 | true=>rw[if_pos rfl];simp[hc]
 | false=>rw[if_neg (by decide)];simp[hc]
theorem Uk (n u v:Nat) (w:World) (hu:u<n) (hv:v<n) (hn:n<=1000):
  Calls prog 185 #[.int .i64 n,.int .i64 u,.int .i64 v] w λe w'=>e=.returned (.bool (Fj n (u*n+v)))/\∃m,w'=w.drewN m:=by
 have aD:=Kh (Uy hu hv);go_enter func185,ntmps185
 go_wp2;go_loopw [7] (λx wr=>∃s:Nat,2<=s/\s<=n+2/\x=.int .i64 s/\(∀t,2<=t->t<s->Nh n u v t=false)/\∃m,wr=w.drewN m) (λx _=>n+2 - (intOf x).toNat)
 case atStart=>exact⟨2,nL _,by omega,rfl,λt I V=>by omega,0,rfl⟩
 case round=>
  obtain⟨s,hs,cG,rfl,hl,m,rfl⟩:=hrel;have HL:=Kh hl;clear hl;by_cases hlt:s<n
  ·have cI:(s:Int)<(n:Int):=by omega
   obtain⟨P,hP⟩:∃x,s*u=x:=⟨_,rfl⟩
   obtain⟨Q,hQ⟩:∃x,s*v=x:=⟨_,rfl⟩
   obtain⟨A,hA⟩:∃x,P % n=x:=⟨_,rfl⟩
   obtain⟨B,hB⟩:∃x,Q % n=x:=⟨_,rfl⟩
   have cC:P<=1000000:=by rw[<-hP];exact Nat.mul_le_mul (by omega:s<=1000) (by omega:u<=1000)
   have cD:Q<=1000000:=by rw[<-hQ];exact Nat.mul_le_mul (by omega:s<=1000) (by omega:v<=1000)
   have e1:(s:Int)*(u:Int)=(P:Nat):=by rw[<-hP];push_cast;rfl
   have e2:(s:Int)*(v:Int)=(Q:Nat):=by rw[<-hQ];push_cast;rfl
   have e3:Int.tmod (P:Int) (n:Int)=(A:Nat):=by rw[Int.tmod_eq_emod_of_nonneg (by omega),<-hA];rfl
   have e4:Int.tmod (Q:Int) (n:Int)=(B:Nat):=by rw[Int.tmod_eq_emod_of_nonneg (by omega),<-hB];rfl
   have e5:((n:Int)==0)=false:=by simp;omega
   have cA:A<n:=by rw[<-hA];exact Nat.mod_lt _ (by omega)
   have cB:B<n:=by rw[<-hB];exact Nat.mod_lt _ (by omega)
   have v1:IntKind.i64.wrap (P:Int)=(P:Nat):=IntWalk.i64_in _ (by omega);have v2:IntKind.i64.wrap (Q:Int)=(Q:Nat):=IntWalk.i64_in _ (by omega);have v3:IntKind.i64.wrap (A:Int)=(A:Nat):=IntWalk.i64_in _ (by omega);have v4:IntKind.i64.wrap (B:Int)=(B:Nat):=IntWalk.i64_in _ (by omega);have E:=Kh (show Nh n u v s=((Nat.gcd s n==1)&&(decide (A<u)||(decide (A=u)&&decide (B<v))))by unfold Nh;rw[hP,hQ,hA,hB])
   have M:=Kh (show Nh n u v s=true->Fj n (u*n+v)=false from λh=>by
    cases hp:Fj n (u*n+v)with
    | false=>rfl
    | true=>have:=aD.1.2 hp s hs hlt;rw[h]at this;cases this)
   have O:=Kh (show Nh n u v s=false->∀t,2<=t->t<s+1->Nh n u v t=false from λh t I V=>by
    rcases Nat.eq_or_lt_of_le (Nat.lt_succ_iff.1 V)with rfl|h3
    ·exact h
    ·exact HL.1 t I h3)
   clear hP hQ hA hB;go_wp2_with fail
   refine(Mu s n (w.drewN m) (by omega) (by omega) (by omega) (by omega)).mono ?_;rintro e w1 ⟨rfl,m1,rfl⟩;have U:Int.gcd (s:Int) (n:Int)=Nat.gcd s n:=rfl;rw[U,Lx];by_cases hg:Nat.gcd s n=1
   ·have bC:(((Nat.gcd s n:Nat):Int)==1)=true:=by rw[hg];rfl
    have aK:(Nat.gcd s n==1)=true:=by rw[hg];rfl
    rw[aK,Bool.true_and]at E;clear hg aK U;rcases Nat.lt_trichotomy A u with I|I|I
    ·have V:(A:Int)<(u:Int):=by omega
     have J:=Kh (M.1 (by rw[E.1];simp[I]));go_wp2;go_ret;exact⟨Cx (by rw[J.1]),_,rfl⟩
    ·have V:((A:Int)==(u:Int))=true:=by rw[I];simp
     have h3:¬((A:Int)<(u:Int)):=by omega
     by_cases Z:B<v
     ·have h5:(B:Int)<(v:Int):=by omega
      have J:=Kh (M.1 (by rw[E.1];simp[I,Z]));clear I;go_wp2;go_ret;exact⟨Cx (by rw[J.1]),_,rfl⟩
     ·have h5:¬((B:Int)<(v:Int)):=by omega
      have J:=Kh (O.1 (by rw[E.1];simp[I,Z]));clear I;go_wp2;all_goals try(exfalso;omega)
      all_goals go_roundw
      all_goals first
       | exact⟨s+1,by omega,by omega,by go_num,J.1,_,rfl⟩
       |(simp[intOf];omega)
    ·have V:((A:Int)==(u:Int))=false:=by simp;omega
     have h3:¬((A:Int)<(u:Int)):=by omega
     have J:=Kh (O.1 (by
      rw[E.1];have Z:¬A<u:=by omega
      have h5:¬A=u:=by omega
      simp[Z,h5]))
     go_wp2;go_roundw
     case rel=>exact⟨s+1,by omega,by omega,by go_num,J.1,_,rfl⟩
     case measure=>simp[intOf];omega
   ·have bC:(((Nat.gcd s n:Nat):Int)==1)=false:=by simp;omega
    have J:=Kh (O.1 (by
     rw[E.1];have Z:(Nat.gcd s n==1)=false:=by simpa using hg
     rw[Z];rfl))
    clear hg U;go_wp2;go_roundw
    case rel=>exact⟨s+1,by omega,by omega,by go_num,J.1,_,rfl⟩
    case measure=>simp[intOf];omega
  ·have J:=Kh (show Fj n (u*n+v)=true from aD.1.1 (λt I V=>HL.1 t I (by omega)))
   go_wp2;go_ret;exact⟨Cx (by rw[J.1]),_,rfl⟩
theorem aS (n:Nat) (w:World) (E:0<n) (hn:n<=120):
  Calls prog 183 #[.int .i64 n] w λe w'=>e=.returned (.int .i64 0)/\w'=w:=by
 go_enter func183,ntmps183
 go_wp2;all_goals try(exfalso;omega)
 all_goals go_ret
 all_goals exact⟨rfl,rfl⟩
theorem Wh (n:Nat) (w:World) (h0:0<n) (hn:n<=120):
  Calls prog 141 #[.int .i64 n] w λe w'=>(∃v,e=.returned (.tuple #[v,.int .i64 0])/\OwnPt n (pts n (n*n)) w' w.heap.size v)/\Below w.heap.size w w':=by
 have HN:=Kh (OwnPt.nil n w w.heap.size);go_enter func141,ntmps141
 go_wp2_with fail
 refine(aS n w h0 hn).mono ?_;rintro e w1 ⟨rfl,hw⟩;rw[hw];clear hw;go_wp2_with fail
 go_loopw [5,6] (λo x wr=>∃u:Nat,u<=n/\x=.int .i64 u/\OwnPt n (pts n (u*n)) wr w.heap.size o/\Below w.heap.size w wr) (λ_ x _=>n - (intOf x).toNat)
 case atStart=>exact⟨0,Nat.zero_le _,rfl,by rw[Nat.zero_mul];exact HN.1,Below.refl _ _⟩
 case round=>
  obtain⟨u,hu,rfl,O,hb⟩:=hrel;have bB:=Kh O;have HB:=Kh hb;clear O hb;by_cases hlt:u<n
  ·have gS:(u:Int)<(n:Int):=by omega
   have cD:=Kh (show OwnPt n (pts n (u*n+0)) wr w.heap.size u5 from bB.1);go_wp2_with fail
   obtain⟨w2,rfl⟩:∃w2:World,w2=wr:=⟨_,rfl⟩
   go_loopw [5,7] (λo x wr=>∃v:Nat,v<=n/\x=.int .i64 v/\OwnPt n (pts n (u*n+v)) wr w.heap.size o/\Below w.heap.size w wr) (λ_ x _=>n - (intOf x).toNat)
   case atStart=>exact⟨0,Nat.zero_le _,rfl,cD.1,HB.1⟩
   case round=>
    obtain⟨v,hv,rfl,O,hb⟩:=hrel;obtain⟨w3,rfl⟩:∃w3:World,w3=wr:=⟨_,rfl⟩
    have E:=Kh O;have U:=Kh hb;clear O hb cD bB HB;by_cases hltv:v<n
    ·have gU:(v:Int)<(n:Int):=by omega
     obtain⟨k,hk⟩:∃k,u*n+v=k:=⟨_,rfl⟩
     have cS:k<n*n:=by
      have:(u+1)*n<=n*n:=Nat.mul_le_mul_right _ hlt;rw[Nat.add_mul,Nat.one_mul]at this;omega
     have bE:k / n=u:=by rw[<-hk,Nat.mul_comm,Nat.mul_add_div h0,Nat.div_eq_of_lt hltv,Nat.add_zero]
     have bY:k % n=v:=by rw[<-hk,Nat.mul_comm,Nat.mul_add_mod,Nat.mod_eq_of_lt hltv]
     have bC:=Kh (Zf h0 cS);have Z:=Kh (show E5 n k=(Nat.gcd (Nat.gcd u v) n==1)by unfold E5;rw[bE,bY]);have eP:=Kh (show N3 n k=[.int .i64 (u:Int),.int .i64 (v:Int),.int .i64 1]by unfold N3;rw[bE,bY]);have cB:=Kh (show(pts n k).length<=14400 from nM (B9 n k) (by have:n*n<=120*120:=Nat.mul_le_mul hn hn;omega));have eF:=Kh (show ∀W,Calls prog 185 #[.int .i64 n,.int .i64 u,.int .i64 v] W λe w'=>e=.returned (.bool (Fj n k))/\∃m,w'=W.drewN m from λW=>hk▸Uk n u v W hlt hltv (by omega));have bA:=Kh (show u*n+(v+1)=k+1 by omega);rw[hk]at E;clear cS bE bY hk;go_wp2_with fail
     refine(Mu u v w3 (by omega) (by omega) (by omega) (by omega)).mono ?_;rintro e w4 ⟨rfl,m1,rfl⟩;have J:Int.gcd (u:Int) (v:Int)=Nat.gcd u v:=rfl;obtain⟨G,hG⟩:∃G,Nat.gcd u v=G:=⟨_,rfl⟩
     have gP:G<=1000:=by
      rw[<-hG];rcases Nat.eq_zero_or_pos u with h|h
      ·subst h;rw[Nat.gcd_zero_left];omega
      ·exact nM (Nat.gcd_le_left _ h) (by omega)
     rw[J,hG];rw[hG]at Z;clear J hG;go_wp2_with fail
     refine(Mu G n _ (by omega) (by omega) (by omega) (by omega)).mono ?_;rintro e w4 ⟨rfl,m2,rfl⟩;have J:Int.gcd (G:Int) (n:Int)=Nat.gcd G n:=rfl;rw[J,Lx];clear J;cases hg:(Nat.gcd G n==1)with
     | false=>
      have eX:(((Nat.gcd G n:Nat):Int)==1)=false:=by
       simp only[beq_eq_false_iff_ne]at hg;simp;omega
      have HE:=Kh (show pts n (k+1)=pts n k by rw[bC.1,Z.1,hg,Bool.false_and,if_neg (by decide)]);have V:=Kh (E.1.keep (Aa (Below.refl _ w3) (m1+m2)));have I:=Kh (Aa U.1 (m1+m2));clear hg;go_wp2;go_roundw
      case rel=>exact⟨v+1,by omega,by go_num,by rw[bA.1,HE.1];exact V.1,I.1⟩
      case measure=>simp[intOf];omega
     | true=>
      have eX:(((Nat.gcd G n:Nat):Int)==1)=true:=by
       simp only[beq_iff_eq]at hg;rw[hg];rfl
      have cF:=Kh (show E5 n k=true by rw[Z.1,hg]);clear hg Z;go_wp2_with fail
      refine(eF.1 _).mono ?_;rintro e w4 ⟨rfl,m3,rfl⟩;rw[Lx];obtain⟨w5,aK⟩:∃w5,w3.drewN (m1+m2+m3)=w5:=⟨_,rfl⟩
      have V:=Kh (aK▸E.1.keep (Aa (Below.refl _ w3) (m1+m2+m3)));have I:=Kh (aK▸Aa U.1 (m1+m2+m3));rw[aK];clear aK E U;cases hl:Fj n k with
      | false=>
       have HE:=Kh (show pts n (k+1)=pts n k by rw[bC.1,hl,Bool.and_false,if_neg (by decide)]);clear hl;go_wp2;go_roundw
       case rel=>exact⟨v+1,by omega,by go_num,by rw[bA.1,HE.1];exact V.1,I.1⟩
       case measure=>simp[intOf];omega
      | true=>
       have HE:=Kh (show pts n (k+1)=pts n k++[k]by rw[bC.1,hl,cF.1];rfl);have cC:=Kh (show OwnK NotU32 w5 w.heap.size 213 3 u5 (pts n k).length ((pts n k).flatMap (N3 n))from V.1);clear hl;go_wp2_with (at_builtin;refine Bk NotU32 rfl (.tmp 35) (.tmp 39) _ 213 rfl underlying159 Ze rfl (by decide) w.heap.size (pts n k).length u5 ((pts n k).flatMap (N3 n)) [.int .i64 (u:Int),.int .i64 (v:Int),.int .i64 1] rfl cC.1 rfl rfl (by intro u hu;simp at hu;rcases hu with rfl|rfl|rfl <;> rfl) (by have:=cB.1;omega) (by have:=cB.1;omega) I.1.size (by intro u hu;simp at hu;rcases hu with rfl|rfl|rfl <;> exact λ_ h=>by cases h) (by intro u hu;simp[Value.cells]at hu;rcases hu with rfl|rfl|rfl <;> exact λ_ h=>by cases h) ?_;intro v9 w9 M aN cG;have eG:=Kh (show OwnPt n (pts n k++[k]) w9 w.heap.size v9 from OwnPt.push (by rw[eP.1];exact M));have dY:=Kh (At I.1 cC.1.1 aN (nL _) I.1.size);clear M aN cG)
       go_roundw
       case rel=>exact⟨v+1,by omega,by go_num,by rw[bA.1,HE.1];exact eG.1,dY.1⟩
       case measure=>simp[intOf];omega
    ·obtain rfl:n=v:=by omega
     have HE:=Kh (show u*n+n=(u+1)*n by rw[Nat.add_mul,Nat.one_mul]);go_wp2;go_roundw
     case rel=>exact⟨u+1,by omega,by go_num,by rw[<-HE.1];exact E.1,U.1⟩
     case measure=>simp[intOf];omega
  ·obtain rfl:n=u:=by omega
   go_wp2
   (first|go_ret2|go_ret)
   exact⟨⟨_,rfl,bB.1⟩,HB.1⟩
theorem aY (n:Nat) (w:World) (M:0<n) (hn:n<=120):
  Calls prog 90 #[.int .i64 n] w λe w'=>e=.returned (.int .i64 ((pts n (n*n)).length:Int))/\Below w.heap.size w w':=by
 go_enter func90,ntmps90
 go_wp2_with fail
 refine(Wh n w M hn).mono ?_;rintro e O ⟨⟨v,rfl,E⟩,I⟩;obtain⟨p,c,rfl⟩:=Bg E.1;have J:=Kh I;clear E I;go_wp2;go_ret;exact⟨rfl,J.1⟩
end Go.Proofs.YtenlbhlllgppmaaGreatDoor
