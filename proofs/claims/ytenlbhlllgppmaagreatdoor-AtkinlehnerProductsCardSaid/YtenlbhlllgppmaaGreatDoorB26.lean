/- Reduction by Gauss and Jordan: column by column, each pivot's column cleared in all rows. How large the entries are, and that the pivots and the reduced rows are those of the elimination with sparse rows. No program in sight. -/
import Derived.Test.YtenlbhlllgppmaaGreatDoorB25
set_option linter.unusedSimpArgs false
set_option maxRecDepth 100000
set_option maxHeartbeats 8000000
namespace Go.Proofs.YtenlbhlllgppmaaGreatDoor
open Tryz
namespace Eli
open Tryz
open Sie
structure GjAt (n B:Nat) (rows:Nat->Nat->Int) (m c:Nat) (ld:Nat->Bool) (L:Nat->Nat->Rat) (R:Nat->Nat->Int) (O:Nat->Nat->Rat) (A:(Nat->Rat)->Prop):Prop where
 inv:Inv B ld L R
 lt:∀p,ld p=true->p<c
 le:c<=n
 sp:∀p,ld p=true->RSp rows m (L p)
 outs:∀p,ld p=true->Sp ld L c (O p)/\O p p=1/\∀p',ld p'=true->p'≠p->O p p'=0
 rest:∀a,A a->(∀q,q<c->a q=0)/\∃i,i<m/\∃u,Sp ld L c u/\∀q,(rows i q:Rat)=a q+u q
 all:∀i,i<m->∃a u,(A a∨∀q,a q=0)/\Sp ld L c u/\∀q,(rows i q:Rat)=a q+u q
def unitQ (j q:Nat):Rat:=if q=j then 1 else 0
def unitZ (j q:Nat):Int:=if q=j then 1 else 0
theorem GjAt.start {n B m:Nat} {rows:Nat->Nat->Int} (hB:1<=B):GjAt n B rows m 0 (λ_=>false) unitQ unitZ (λ_ _=>0) (λa=>∃i,i<m/\∀q,a q=(rows i q:Rat)) where
 inv:=by
  constructor
  ·intro j q hq;rw[unitQ,if_neg (by omega)]
  ·intro j;rw[unitQ,if_pos rfl]
  ·intro j _ q;rfl
  ·intro j _ q;rfl
  ·intro p I;cases I
  ·intro p q;rw[unitZ];split
   ·exact hB
   ·exact Nat.zero_le _
 lt:=λp I=>by cases I
 le:=Nat.zero_le _
 sp:=λp I=>by cases I
 outs:=λp I=>by cases I
 rest:=λa ⟨i,J,U⟩=>⟨λq hq=>absurd hq (Nat.not_lt_zero _),i,J,λ_=>0,Sp.nil _ _ _,λq=>by rw[U];grind⟩
 all:=λi J=>⟨λq=>(rows i q:Rat),λ_=>0,.inl ⟨i,J,λ_=>rfl⟩,Sp.nil _ _ _,λq=>by grind⟩
section
variable {n B m c:Nat} {rows:Nat->Nat->Int} {ld:Nat->Bool} {L:Nat->Nat->Rat} {R:Nat->Nat->Int} {O:Nat->Nat->Rat} {A:(Nat->Rat)->Prop}
theorem GjAt.skip (h:GjAt n B rows m c ld L R O A) (hc:c<n) (Y:∀a,A a->a c=0):GjAt n B rows m (c+1) ld L R O A where
 inv:=h.inv
 lt:=λp I=>Nat.lt_succ_of_lt (h.lt p I)
 le:=hc
 sp:=h.sp
 outs:=λp I=>⟨(h.outs p I).1.mono (Nat.le_succ _),(h.outs p I).2⟩
 rest:=λa V=>by
  obtain⟨J,i,U,u,hu,he⟩:=h.rest a V;refine⟨λq hq=>?_,i,U,u,hu.mono (Nat.le_succ _),he⟩;by_cases e:q=c
  ·rw[e];exact Y a V
  ·exact J q (by omega)
 all:=λi U=>by
  obtain⟨a,u,J,Z,h3⟩:=h.all i U;exact⟨a,u,J,Z.mono (Nat.le_succ _),h3⟩
theorem GjAt.same_rest (h:GjAt n B rows m c ld L R O A) {A':(Nat->Rat)->Prop} (Z:∀a,A' a->∃b,A b/\∀q,a q=b q) (h2:∀a,A a->∃b,A' b/\∀q,b q=a q):GjAt n B rows m c ld L R O A' where
 inv:=h.inv
 lt:=h.lt
 le:=h.le
 sp:=h.sp
 outs:=h.outs
 rest:=λa ha=>by
  obtain⟨b,J,e⟩:=Z a ha;obtain⟨I,i,U,u,hu,he⟩:=h.rest b J;exact⟨λq hq=>by rw[e];exact I q hq,i,U,u,hu,λq=>by rw[e];exact he q⟩
 all:=λi U=>by
  obtain⟨a,u,I,V,Y⟩:=h.all i U;rcases I with I|I
  ·obtain⟨b,J,e⟩:=h2 a I
   exact⟨b,u,.inl J,V,λq=>by rw[e];exact Y q⟩
  ·exact⟨a,u,.inr I,V,Y⟩
theorem GjAt.rest_sp (h:GjAt n B rows m c ld L R O A) {u:Nat->Rat} (J:Sp ld L c u):RSp rows m u:=RSp.of_sp J (λj _ I=>h.sp j I)
theorem GjAt.pivot (h:GjAt n B rows m c ld L R O A) (hb:∀i q,(rows i q).natAbs<=B) (hc:c<n) {r:Nat->Rat} (hr:A r) (h0:r c≠0) {A':(Nat->Rat)->Prop} {O':Nat->Nat->Rat} {ld':Nat->Bool}
  (cF:∀j,ld' j=(ld j||decide (j=c)))
  (h1:∀a',A' a'->∃a,A a/\∀q,a' q=a q+-(a c)*(1 / r c*r q)) (h2:∀a,A a->(∀q,a q=r q)∨∃a',A' a'/\∀q,a' q=a q+-(a c)*(1 / r c*r q))
  (hO:∀q,O' c q=1 / r c*r q) (cD:∀p,ld p=true->∀q,O' p q=O p q+-(O p c)*(1 / r c*r q)):
  ∃L' R',GjAt n B rows m (c+1) ld' L' R' O' A':=by
 obtain⟨hz,i0,hI,u0,gP,gA⟩:=h.rest r hr
 have hE:ld c=false:=by
  cases e:ld c with
  | false=>rfl
  | true=>exact absurd (h.lt c e) (Nat.lt_irrefl _)
 have cG:ld' c=true:=by rw[cF,decide_eq_true rfl,Bool.or_true]
 have V:∀j,j≠c->ld' j=ld j:=λj U=>by rw[cF,decide_eq_false U,Bool.or_false]
 have hJ:∀j,ld j=true->ld' j=true:=λj U=>by rw[cF,U,Bool.true_or]
 obtain⟨pv,I⟩:∃pv:Nat->Rat,∀q,pv q=1 / r c*r q:=⟨λq=>1 / r c*r q,λ_=>rfl⟩
 have bC:∀q,q<c->pv q=0:=λq hq=>by rw[I,hz q hq];grind
 have cC:pv c=1:=by rw[I];grind
 have gL:∀q,r q=r c*pv q:=λq=>by rw[I];grind
 obtain⟨L',eP⟩:∃L':Nat->Nat->Rat,L'=λj=>if j=c then pv else L j:=⟨_,rfl⟩
 have bA:L' c=pv:=by rw[eP];exact if_pos rfl
 have aX:∀j,j≠c->L' j=L j:=λj U=>by rw[eP];exact if_neg U
 have Y:∀t u,Sp ld L t u->Sp ld' L' t u:=λt u hu=>hu.turn λj _ U=>by
  have bB:j≠c:=λe=>by rw[e,hE]at U;cases U
  exact⟨hJ j U,aX j bB⟩
 have bY:∀u,Sp ld L c u->Sp ld' L' (c+1) u:=λu hu=>(Y _ _ hu).mono (Nat.le_succ _)
 have J:Sp ld' L' (c+1) pv:=bA▸Sp.lead (nU _) cG
 have gN:RSp rows m pv:=by
  have Z:RSp rows m (λq=>(rows i0 q:Rat)+(-1)*u0 q):=(RSp.row hI).combine (-1) (h.rest_sp gP);exact((RSp.nil rows m).combine (1 / r c) Z).congr (λq=>by rw[I,gA];grind)
 refine⟨L',λj=>if j=c then rows i0 else R j,?_⟩;constructor
 ·constructor
  ·intro j q hq
   by_cases e:j=c
   ·rw[e,bA];exact bC q (by omega)
   ·rw[aX j e];exact h.inv.low j q hq
  ·intro j
   by_cases e:j=c
   ·rw[e,bA];exact cC
   ·rw[aX j e];exact h.inv.one j
  ·intro j U q
   have e:j≠c:=λe=>by rw[e,cG]at U;cases U
   rw[aX j e];exact h.inv.free j (by rw[<-V j e];exact U) q
  ·intro j U q
   have e:j≠c:=λe=>by rw[e,cG]at U;cases U
   simp only[if_neg e];exact h.inv.rfree j (by rw[<-V j e];exact U) q
  ·intro p hp
   by_cases e:p=c
   ·subst e
    refine⟨r p,h0,u0,Y _ _ gP,λq=>?_⟩;rw[if_pos rfl,gA,bA,<-gL]
   ·obtain⟨s,Z,u,hu,he⟩:=h.inv.got p (by rw[<-V p e];exact hp)
    refine⟨s,Z,u,Y _ _ hu,λq=>?_⟩;rw[if_neg e,aX p e];exact he q
  ·intro p q
   show((if p=c then rows i0 else R p) q).natAbs<=B;split
   ·exact hb i0 q
   ·exact h.inv.bound p q
 ·intro p hp
  by_cases e:p=c
  ·omega
  ·exact Nat.lt_succ_of_lt (h.lt p (by rw[<-V p e];exact hp))
 ·exact hc
 ·intro p hp
  by_cases e:p=c
  ·rw[e,bA];exact gN
  ·rw[aX p e];exact h.sp p (by rw[<-V p e];exact hp)
 ·intro p hp
  by_cases e:p=c
  ·rw[e]
   refine⟨J.congr (λq=>by rw[hO,I]),by rw[hO,<-I];exact cC,λp' cX bB=>?_⟩;rw[hO,<-I];exact bC p' (h.lt p' (by rw[<-V p' bB];exact cX))
  ·have bE:ld p=true:=by rw[<-V p e];exact hp
   obtain⟨Z,h4,h5⟩:=h.outs p bE;have hlt:=h.lt p bE;refine⟨((bY _ Z).combine (-(O p c)) J).congr (λq=>by rw[cD p bE,I]),?_,λp' cX bB=>?_⟩
   ·rw[cD p bE,<-I,bC p hlt,h4];grind
   ·rw[cD p bE,<-I]
    by_cases e2:p'=c
    ·rw[e2,cC];grind
    ·have gF:ld p'=true:=by rw[<-V p' e2];exact cX
     rw[bC p' (h.lt p' gF),h5 p' gF bB];grind
 ·intro a' hD
  obtain⟨a,ha,ea⟩:=h1 a' hD;obtain⟨Z,i,hi,u,hu,he⟩:=h.rest a ha;refine⟨λq hq=>?_,i,hi,_,(bY _ hu).combine (a c) J,λq=>?_⟩
  ·rw[ea,<-I]
   by_cases e:q=c
   ·rw[e,cC];grind
   ·rw[bC q (by omega),Z q (by omega)];grind
  ·rw[he,ea,I];grind
 ·intro i hi
  obtain⟨a,u,Z,h4,h5⟩:=h.all i hi;rcases Z with Z|Z
  ·rcases h2 a Z with h6 |⟨a',h6,h7⟩
   ·refine⟨λ_=>0,_,.inr (λ_=>rfl),(bY _ h4).combine (r c) J,λq=>?_⟩
    rw[h5,h6,gL];grind
   ·refine⟨a',_,.inl h6,(bY _ h4).combine (a c) J,λq=>?_⟩
    rw[h5,h7,I];grind
  ·exact⟨a,u,.inr Z,bY _ h4,h5⟩
theorem Oo (n B:Nat):1<=top n B:=by
 rw[top];refine Bz.2 ?_;have h:0<cap n B:=Nat.pow_pos (Nat.succ_pos _);omega
theorem GjAt.rest_size (h:GjAt n B rows m c ld L R O A) (hb:∀i q,(rows i q).natAbs<=B) {a:Nat->Rat} (Z:A a) (q:Nat):hq (a q)<=top n B:=by
 obtain⟨U,i,hi,u,hu,he⟩:=h.rest a Z;obtain⟨k,N,J,I,Y,V⟩:=h.inv.height (rows i) (hb i) a c u hu he U;rw[D7 J (V q)];exact Dt J (Jw h.le (Y _)) (Gm h.le I)
theorem RSp.high {u:Nat->Rat} (J:RSp rows m u) (I:∀i q,n<=q->rows i q=0) (q:Nat) (hq:n<=q):u q=0:=by
 obtain⟨z,U⟩:=J;rw[U];exact A8 (λi _=>by rw[I i q hq];have:((0:Int):Rat)=0:=rfl;rw[this];grind)
theorem GjAt.unit (h:GjAt n B rows m c ld L R O A) (V:∀i q,n<=q->rows i q=0) {p:Nat} (J:ld p=true) (q:Nat):unitQ p q=sumQ (λf=>(if ld f then 0 else -(O p f))*L f q) n+O p q:=by
 obtain⟨Y,Z,h3⟩:=h.outs p J;have bA:p<n:=nT (h.lt p J) h.le;rw[unitQ];by_cases hqn:q<n
 ·have U:sumQ (λf=>(if ld f then 0 else -(O p f))*L f q) n=(if ld q then 0 else -(O p q)):=by
   rw[Bc hqn (λi _ I=>?_)]
   ·cases hl:ld q with
    | true=>simp
    | false=>rw[h.inv.one];simp
   ·cases hl:ld i with
    | true=>simp
    | false=>rw[h.inv.free i hl,show(if q=i then(1:Rat)else 0)=0 from if_neg (λe=>I e.symm)];exact Rat.mul_zero _
  rw[U];cases hl:ld q with
  | true=>
   by_cases e:q=p
   ·rw[if_pos e,e,Z];simp;grind
   ·rw[if_neg e,h3 q hl e];simp;grind
  | false=>
   have e:q≠p:=λe=>by rw[e,J]at hl;cases hl
   rw[if_neg e];simp;grind
 ·rw[if_neg (by omega),RSp.high (h.rest_sp Y) V q (by omega),A8 (λi hi=>?_)]
  ·grind
  ·cases hl:ld i with
   | true=>simp
   | false=>rw[h.inv.free i hl,show(if q=i then(1:Rat)else 0)=0 from if_neg (by omega)];exact Rat.mul_zero _
theorem GjAt.out_size (h:GjAt n B rows m c ld L R O A) (hB:1<=B) (J:∀i q,n<=q->rows i q=0) {p:Nat} (Y:ld p=true) (q:Nat):hq (O p q)<=top n B:=by
 obtain⟨U,Z,h3⟩:=h.outs p Y;by_cases hqn:q<n
 ·cases hl:ld q with
  | true=>
   by_cases e:q=p
   ·rw[e,Z,Yk];exact Oo n B
   ·rw[h3 q hl e,N8];exact Oo n B
  | false=>
   obtain⟨k,N,V,I,hN,hE⟩:=h.inv.coords (unitZ p) (λq=>by rw[unitZ];split <;> simp <;> omega) n (λf=>-(O p f)) (O p) (U.mono h.le) (λq=>by
    rw[<-h.unit J Y q,unitZ,unitQ];split <;> rfl)
   have h4:=hE q hqn hl;rw[<-N7,D7 V h4];exact Dt V (Gm (nR _) (hN q hqn)) (Gm (nR _) I)
 ·rw[RSp.high (h.rest_sp U) J q (by omega),N8];exact Oo n B
theorem GjAt.done (h:GjAt n B rows m c ld L R O A) (U:∀i q,n<=q->rows i q=0) (J:c=n∨∀a,¬A a) (i:Nat) (hi:i<m):Sp ld L n (λq=>(rows i q:Rat)):=by
 obtain⟨a,u,I,V,Y⟩:=h.all i hi;refine(V.mono h.le).congr (λq=>?_)
 have ha:a q=0:=by
  rcases I with I|I
  ·rcases J with J|J
   ·by_cases hq:q<n
    ·exact(h.rest a I).1 q (by omega)
    ·have Z:=Y q
     rw[U i q (by omega),RSp.high (h.rest_sp V) U q (by omega)]at Z;have:((0:Int):Rat)=0:=rfl;rw[this]at Z;grind
   ·exact absurd I (J a)
  ·exact I q
 rw[Y,ha];grind
end
end Eli
end Go.Proofs.YtenlbhlllgppmaaGreatDoor
namespace Go.Proofs.YtenlbhlllgppmaaGreatDoor
open Tryz
open Go.RowKit Eli
def pvs (ld:Nat->Bool) (c:Nat):List Nat:=(List.range c).filter ld
theorem Qk (ld:Nat->Bool) (c:Nat):pvs ld (c+1)=if ld c then pvs ld c++[c]else pvs ld c:=by
 rw[pvs,List.range_succ,List.filter_append,List.filter_cons];cases ld c with
 | true=>rfl
 | false=>exact List.append_nil _
theorem Vs {ld ld':Nat->Bool} {c:Nat} (h:∀j,j<c->ld' j=ld j):pvs ld' c=pvs ld c:=List.filter_congr (λj I=>h j (List.mem_range.1 I))
theorem Tw {ld:Nat->Bool} {c p:Nat}:p∈pvs ld c↔p<c/\ld p=true:=by rw[pvs,List.mem_filter,List.mem_range]
def Xu (pv:Nat->Rat) (c:Nat) (x:Nat->Rat):Nat->Rat:=λq=>x q+-(x c)*pv q
theorem OwnG.all {l:List (Nat->Rat)} {N:Nat} {w:World} {B:Nat} {v:Value} {J:List Value} (U:OwnK SliceV w B 30 1 v l.length J) (V:∀(j:Nat) x,l[j]?=some x->∃vr,J[j]?=some vr/\RowV x N w vr):∀u∈J,SliceV u:=by
 intro u Z;obtain⟨j,Y,e⟩:=List.getElem_of_mem Z;have h:J.length=l.length:=by have:=U.1.1;omega
 obtain⟨vr,I,⟨p,c,O⟩,_⟩:=V j l[j] (List.getElem?_eq_getElem (by omega));rw[List.getElem?_eq_getElem Y,e]at I;injection I with I
 exact⟨p,N,c,I.trans O⟩
theorem SliceV.one {u:Value} (h:SliceV u):u.oneCell'=true:=by
 obtain⟨p,n,c,rfl⟩:=h;rfl
theorem OwnG.val {l:List (Nat->Rat)} {N:Nat} {w:World} {B:Nat} {v:Value} (h:OwnG l N w B v):∃p c,v=.slice p l.length c:=by
 obtain⟨J,I,_⟩:=h;exact Ba I.1
theorem OwnN.val {l:List Nat} {w:World} {B:Nat} {v:Value} (h:OwnN l w B v):∃p c,v=.slice p l.length c:=Ba h.1
theorem OwnG.base {l:List (Nat->Rat)} {N:Nat} {w:World} {B B':Nat} {v:Value} (h:OwnG l N w B v) (hB:B'<=B):OwnG l N w B' v:=by
 obtain⟨Y,I,V⟩:=h;refine⟨Y,⟨⟨I.1.1,?_⟩,I.2⟩,V⟩;rcases I.1.2 with h |⟨U,cap,O,e,J,hr⟩
 ·exact .inl h
 ·exact .inr ⟨U,cap,O,e,nS hB J,hr⟩
theorem OwnG.ge {l:List (Nat->Rat)} {N:Nat} {w:World} {B g:Nat} {v:Value} (h:OwnG l N w B v) (e:v.ownBlock=some g):B<=g/\g<w.heap.size:=by
 obtain⟨J,I,_⟩:=h;exact⟨Cn I.1 e.symm,(I.2 g e).1⟩
theorem OwnN.ge {l:List Nat} {w:World} {B g:Nat} {v:Value} (h:OwnN l w B v) (e:v.ownBlock=some g):B<=g/\g<w.heap.size:=⟨Cn h.1 e.symm,(h.2 g e).1⟩
theorem OwnK.but {K:Value->Prop} {w w':World} {B E O n:Nat} {v:Value} {U:List Value} {R:Option Nat} (h:OwnK K w B E O v n U) (hg:w.grownBy w' R) (I:∀g,v.ownBlock=some g->R≠some g):OwnK K w' B E O v n U:=by
 refine⟨h.1.kept hg ?_,λg e=>?_⟩
 ·cases hv:v.ownBlock with
  | none=>exact .inl rfl
  | some g=>exact .inr (λe=>I g hv e.symm)
 ·have J:=h.2 g e
  have Y:=hg.block g J.1 (λV=>I g e V.symm);exact⟨nT J.1 hg.size,λi u Z=>J.2 i u ((World.cell?_of_block (a:=⟨g,i,none⟩) Y).symm.trans Z)⟩
theorem OwnG.but {l:List (Nat->Rat)} {N:Nat} {w w':World} {B:Nat} {v:Value} {R:Option Nat} (h:OwnG l N w B v) (V:∀r,R=some r->Stk SliceV w r) (hg:w.grownBy w' R) (I:I32 w w') (J:∀g,v.ownBlock=some g->R≠some g):OwnG l N w' B v:=by
 obtain⟨Z,O,U⟩:=h;exact⟨Z,O.but hg J,λj x Y=>by obtain⟨vr,e,hr⟩:=U j x Y;exact⟨vr,e,hr.grown V hg I⟩⟩
end Go.Proofs.YtenlbhlllgppmaaGreatDoor
namespace Go.Proofs.YtenlbhlllgppmaaGreatDoor
open Tryz
open Go.RowKit
namespace Eli
open Tryz
def inF (F:Nat->Nat->Rat) (a m:Nat):(Nat->Rat)->Prop:=λx=>∃i,a<=i/\i<m/\∀q,x q=F i q
structure GridAt (n B:Nat) (rows:Nat->Nat->Int) (m c t:Nat) (F:Nat->Nat->Rat) (ld:Nat->Bool) (L:Nat->Nat->Rat) (R:Nat->Nat->Int) (O:Nat->Nat->Rat):Prop where
 gj:GjAt n B rows m c ld L R O (inF F t m)
 len:(pvs ld c).length=t
 lo:∀k p,(pvs ld c)[k]?=some p->∀q,F k q=O p q
 le:t<=m
def lN {α:Type} (F:Nat->α) (a b:Nat):Nat->α:=λi=>if i=a then F b else if i=b then F a else F i
def Sa (x:Nat->Rat) (c:Nat):Nat->Rat:=λq=>1 / x c*x q
def L9 (F:Nat->Nat->Rat) (t:Nat) (f:Nat->Rat):Nat->Nat->Rat:=λi=>if i=t then f else F i
def kH (F:Nat->Nat->Rat) (pv:Nat->Rat) (c t k:Nat):Nat->Nat->Rat:=λi=>if i<k/\i≠t then Xu pv c (F i)else F i
section
variable {n B m c t:Nat} {rows:Nat->Nat->Int} {F:Nat->Nat->Rat} {ld:Nat->Bool} {L:Nat->Nat->Rat} {R:Nat->Nat->Int} {O:Nat->Nat->Rat}
theorem GridAt.start (hB:1<=B) (hF:∀i q,F i q=(rows i q:Rat)):GridAt n B rows m 0 0 F (λ_=>false) unitQ unitZ (λ_ _=>0) where
 gj:=(GjAt.start hB).same_rest (λa ⟨i,_,I,e⟩=>⟨_,⟨i,I,λ_=>rfl⟩,λq=>by rw[e,hF]⟩) (λa ⟨i,J,e⟩=>⟨F i,⟨i,Nat.zero_le _,J,λ_=>rfl⟩,λq=>by rw[e,hF]⟩)
 len:=rfl
 lo:=λk p h=>by simp[pvs]at h
 le:=Nat.zero_le _
theorem GridAt.skip (h:GridAt n B rows m c t F ld L R O) (V:c<n) (I:∀i,t<=i->i<m->F i c=0):GridAt n B rows m (c+1) t F ld L R O:=by
 have e:pvs ld (c+1)=pvs ld c:=by rw[Qk,if_neg (λY=>by have:=h.gj.lt c Y;omega)]
 exact⟨h.gj.skip V (λa ⟨i,J,U,e⟩=>by rw[e];exact I i J U),by rw[e];exact h.len,by rw[e];exact h.lo,h.le⟩
theorem GridAt.zero (h:GridAt n B rows m c t F ld L R O) {i:Nat} (I:t<=i) (J:i<m) (q:Nat) (hq:q<c):F i q=0:=(h.gj.rest (F i) ⟨i,I,J,λ_=>rfl⟩).1 q hq
theorem GridAt.size (h:GridAt n B rows m c t F ld L R O) (hB:1<=B) (U:∀i q,(rows i q).natAbs<=B) (J:∀i q,n<=q->rows i q=0) {i:Nat} (V:i<m) (q:Nat):hq (F i q)<=top n B:=by
 by_cases hit:i<t
 ·have I:i<(pvs ld c).length:=by rw[h.len];exact hit
  have e:=List.getElem?_eq_getElem I;rw[h.lo i _ e];exact h.gj.out_size hB J (Tw.1 (List.getElem_mem I)).2 q
 ·exact h.gj.rest_size U ⟨i,by omega,V,λ_=>rfl⟩ q
theorem GridAt.pivot (h:GridAt n B rows m c t F ld L R O) (hb:∀i q,(rows i q).natAbs<=B) (hc:c<n) {s:Nat} (hs:t<=s) (Z:s<m) (h0:F s c≠0):
  ∃ld' L' R' O',GridAt n B rows m (c+1) (t+1) (kH (L9 (lN F t s) t (Sa (F s) c)) (Sa (F s) c) c t m) ld' L' R' O'/\pvs ld' (c+1)=pvs ld c++[c]:=by
 obtain⟨V,U⟩:∃V,V=kH (L9 (lN F t s) t (Sa (F s) c)) (Sa (F s) c) c t m:=⟨_,rfl⟩
 have k1:∀i,i<m->i≠t->i≠s->V i=Xu (Sa (F s) c) c (F i):=λi h1 I h3=>by
  rw[U,kH,if_pos ⟨h1,I⟩,L9,if_neg I,lN,if_neg I,if_neg h3]
 have k2:s≠t->V s=Xu (Sa (F s) c) c (F t):=λI=>by
  rw[U,kH,if_pos ⟨Z,I⟩,L9,if_neg I,lN,if_neg I,if_pos rfl]
 have k3:V t=Sa (F s) c:=by rw[U,kH,if_neg (λh=>h.2 rfl),L9,if_pos rfl]
 have bC:∀j,j<c->(ld j||decide (j=c))=ld j:=λj hj=>by rw[decide_eq_false (by omega),Bool.or_false]
 rw[<-U]
 obtain⟨L',R',hg⟩:=h.gj.pivot hb hc (r:=F s) ⟨s,hs,Z,λ_=>rfl⟩ h0 (A':=inF V (t+1) m) (O':=λp=>if p=c then Sa (F s) c else Xu (Sa (F s) c) c (O p)) (ld':=λj=>ld j||decide (j=c)) (λ_=>rfl)
  (λa' ⟨i,h1,I,e⟩=>by
   by_cases his:i=s
   ·subst his
    exact⟨F t,⟨t,nR _,by omega,λ_=>rfl⟩,λq=>by rw[e,k2 (by omega),Xu,Sa]⟩
   ·exact⟨F i,⟨i,by omega,I,λ_=>rfl⟩,λq=>by rw[e,k1 i I (by omega) his,Xu,Sa]⟩)
  (λa ⟨i,h1,I,e⟩=>by
   by_cases his:i=s
   ·subst his;exact .inl e
   ·right
    by_cases hit:i=t
    ·exact⟨V s,⟨s,by omega,Z,λ_=>rfl⟩,λq=>by rw[k2 (by omega),Xu,Sa,e,e,hit]⟩
    ·exact⟨V i,⟨i,by omega,I,λ_=>rfl⟩,λq=>by rw[k1 i I hit his,Xu,Sa,e,e]⟩)
  (λq=>by simp[Sa]) (λp hp q=>by
   have:p≠c:=by have:=h.gj.lt p hp;omega
   simp only[if_neg this];rw[Xu,Sa])
 have Y:pvs (λj=>ld j||decide (j=c)) (c+1)=pvs ld c++[c]:=by
  rw[Qk,if_pos (by simp),Vs bC]
 refine⟨_,L',R',_,⟨hg,by rw[Y,List.length_append,h.len];rfl,λk p J q=>?_,by omega⟩,Y⟩;rw[Y]at J;by_cases hkt:k<t
 ·rw[List.getElem?_append_left (by rw[h.len];exact hkt)]at J
  have:p≠c:=by have:=(Tw.1 (List.mem_of_getElem? J)).1;omega
  rw[k1 k (by omega) (by omega) (by omega)];simp only[if_neg this];rw[Xu,Xu,h.lo k p J,h.lo k p J]
 ·rw[List.getElem?_append_right (by rw[h.len];omega),h.len]at J
  have bE:k - t=0:=by
   rcases Nat.eq_zero_or_pos (k - t)with h1|h1
   ·exact h1
   ·rw[List.getElem?_eq_none (by rw[List.length_singleton];omega)]at J;cases J
  rw[bE]at J;injection J with J
  obtain rfl:k=t:=by omega
  rw[k3,<-J];simp
end
end Eli
open Eli
structure GM (F:Nat->Nat->Rat) (m C:Nat) (w:World) (G:Nat) (gs:Nat->Nat) (B:Nat):Prop where
 stk:Stk SliceV w G
 free:∀i,w.frozen? ⟨G,i,none⟩=false
 hB:B<=G
 at_:∀i,i<m->w.cell? ⟨G,i,none⟩=some (.slice (some ⟨gs i,0,none⟩) C C)
 row:∀i,i<m->QRow (λq=>IsQ (F i q)) w (gs i) C C
 ge:∀i,i<m->B<=gs i
 ne:∀i,i<m->gs i≠G
 inj:∀i j,i<m->j<m->gs i=gs j->i=j
section
variable {F:Nat->Nat->Rat} {m C:Nat} {w:World} {G:Nat} {gs:Nat->Nat} {B:Nat}
theorem GM.keep {w':World} (h:GM F m C w G gs B) (I:Below w.heap.size w w'):GM F m C w' G gs B:=
 ⟨h.stk.next I,λi=>(World.frozen?_of_block (a:=⟨G,i,none⟩) (I.block G h.stk.1)).trans (h.free i),h.hB,λi J=>cell_next I (h.at_ i J),λi J=>(h.row i J).keep (λ_=>IsQ.solid _) I,h.ge,h.ne,h.inj⟩
theorem GM.congr {I:Nat->Nat->Rat} (h:GM F m C w G gs B) (e:∀i q,i<m->q<C->I i q=F i q):GM I m C w G gs B:=
 ⟨h.stk,h.free,h.hB,h.at_,λi J=>(h.row i J).congr (λq hq=>by rw[e i q J hq]),h.ge,h.ne,h.inj⟩
theorem GM.elem (h:GM F m C w G gs B) {i q:Nat} (I:i<m) (hq:q<C):QE (IsQ (F i q)) w (gs i) (q*4):=(h.row i I).val q hq
theorem GM.put {w':World} (h:GM F m C w G gs B) {i:Nat} (Y:i<m) {f:Nat->Rat} (hr:QRow (λq=>IsQ (f q)) w' (gs i) C C) (hg:w.grownBy w' (some (gs i))) (U:I32 w w'):GM (L9 F i f) m C w' G gs B:=by
 have V:(some G:Option Nat)≠some (gs i):=λe=>h.ne i Y (by injection e with e;exact e.symm)
 have I:w'.heap[G]?=w.heap[G]?:=hg.block G h.stk.1 V;refine⟨⟨nT h.stk.1 hg.size,λk v hv=>h.stk.2 k v ((World.cell?_of_block (a:=⟨G,k,none⟩) I).symm.trans hv)⟩,λk=>(World.frozen?_of_block (a:=⟨G,k,none⟩) I).trans (h.free k),h.hB,λk J=>hg.cell (h.at_ k J) V,λk J=>?_,h.ge,h.ne,h.inj⟩;by_cases e:k=i
 ·subst e
  simp only[L9,if_pos];exact hr
 ·simp only[L9,if_neg e]
  exact(h.row k J).i32 (λ_=>IsQ.solid _) U hg (λZ=>e (h.inj k i J Y Z))
theorem GM.more (h:GM F m C w G gs B) {g:Nat} (_hs:(w.cell? ⟨G,m,none⟩).isSome=true) (hr:QRow (λq=>IsQ (F m q)) w g C C) (hg:B<=g) (V:g≠G) (U:∀i,i<m->gs i≠g) (Z:w.cell? ⟨G,m,none⟩=some (.slice (some ⟨g,0,none⟩) C C)):
  GM F (m+1) C w G (λi=>if i=m then g else gs i) B:=by
 have J:∀i,i<m+1->i≠m->i<m:=λi h1 h2=>by omega
 refine⟨h.stk,h.free,h.hB,λi I=>?_,λi I=>?_,λi I=>?_,λi I=>?_,λi j I Y e=>?_⟩
 ·by_cases e:i=m
  ·rw[if_pos e,e];exact Z
  ·rw[if_neg e];exact h.at_ i (J i I e)
 ·by_cases e:i=m
  ·rw[if_pos e,e];exact hr
  ·rw[if_neg e];exact h.row i (J i I e)
 ·by_cases e:i=m
  ·rw[if_pos e];exact hg
  ·rw[if_neg e];exact h.ge i (J i I e)
 ·by_cases e:i=m
  ·rw[if_pos e];exact V
  ·rw[if_neg e];exact h.ne i (J i I e)
 ·by_cases e1:i=m
  ·by_cases e2:j=m
   ·omega
   ·rw[if_pos e1,if_neg e2]at e
    exact absurd e.symm (U j (J j Y e2))
  ·by_cases e2:j=m
   ·rw[if_neg e1,if_pos e2]at e
    exact absurd e (U i (J i I e1))
   ·rw[if_neg e1,if_neg e2]at e
    exact h.inj i j (J i I e1) (J j Y e2) e
theorem GM.but {w':World} {R:Nat} (h:GM F m C w G gs B) (V:I32 w w') (hg:w.grownBy w' (some R)) (Z:G≠R) (Y:∀i,i<m->gs i≠R):GM F m C w' G gs B:=by
 have I:(some G:Option Nat)≠some R:=λe=>Z (by injection e)
 have J:w'.heap[G]?=w.heap[G]?:=hg.block G h.stk.1 I;exact⟨⟨nT h.stk.1 hg.size,λk v hv=>h.stk.2 k v ((World.cell?_of_block (a:=⟨G,k,none⟩) J).symm.trans hv)⟩,λk=>(World.frozen?_of_block (a:=⟨G,k,none⟩) J).trans (h.free k),h.hB,λk U=>hg.cell (h.at_ k U) I,λk U=>(h.row k U).i32 (λ_=>IsQ.solid _) V hg (Y k U),h.ge,h.ne,h.inj⟩
end
section
variable {P:Program} {md:Region.Mode} {ops:Array Oper} {Q:Exit->Act->World->Prop} {S:World->Prop} {X:List Nat}
def Cb (ops:Array Oper) (X:List Nat) (listed:Array Bool):Bool:=(List.range ops.size).all λk=>listed.getD k true||X.contains k
theorem K6 {I:Array Bool} {i:Nat} (J:X.contains i=true):Cb ops X (I.setIfInBounds i true)=Cb ops X I:=by
 unfold Cb;congr 1;funext k;by_cases e:k=i
 ·subst e;rw[J,Bool.or_true,Bool.or_true]
 ·rw[getD_set_ne true (λh=>e h.symm)]
theorem My {I:Array Bool} {k:Nat} (U:k<ops.size) (O:X.contains k=false) (h:I.getD k true=false):Cb ops X I=false:=by
 cases e:Cb ops X I with
 | false=>rfl
 | true=>
  rw[Cb,List.all_eq_true]at e;have J:=e k (List.mem_range.2 U);rw[h,O]at J;cases J
def aS (md:Region.Mode) (ops:Array Oper) (X:List Nat) (listed:Array Bool) (i:Nat):Bool:=
 (List.range ops.size).any λk=>k != i && !(listed.getD k true) && !X.contains k&&match ops[k]? with
  | some o=>o.after.any λe=>Region.binds md e&&e.on==i
  | none=>false
def wpX (P:Program) (md:Region.Mode) (ops:Array Oper) (Q:Exit->Act->World->Prop) (S:World->Prop) (X:List Nat):Nat->Array Bool->Act->World->Prop
 | 0,listed,a,w=>Region.ready md ops listed=[]/\Q .normal a w
 | n+1,listed,a,w=>(Region.ready md ops listed=[]->Q .normal a w) /\
  ∀i∈Region.ready md ops listed,wpOp P ops Q i (λa' w'=>(Cb ops X (listed.setIfInBounds i true)=false->S w')/\wpX P md ops Q S X n (listed.setIfInBounds i true) a' w') a w
theorem wpX.any:∀(n:Nat) (I:Array Bool) (a:Act) (w:World),wpX P md ops Q S X n I a w->wpAny P md ops Q n I a w
 | 0,_,_,_,h=>h
 | n+1,_,_,_,h=>⟨h.1,λi U=>wpOp_mono (λJ w' O=>wpX.any n _ J w' O.2) (h.2 i U)⟩
theorem wpX.first {T:World->Prop} {i:Nat} {oi:Oper} {v:Value} (hi:ops[i]?=some oi)
  (Z:∀(j:Nat) (o:Oper) cs b,ops[j]?=some o->o.op≠.select cs b) (hQ:∀c a w,Q (.panic c) (a.put oi.dst v) w->Q (.panic c) a w) (I:Array Bool->Prop)
  (hI:∀l j,I l->j≠i->j∈Region.ready md ops l->I (l.setIfInBounds j true)) (hF:∀l,I l->(Cb ops X (l.setIfInBounds i true)=false->∀w,S w->T w)/\(Cb ops X l=false->Cb ops X (l.setIfInBounds i true)=false)/\(Cb ops X l=true->∀w,T w)):
  ∀(n:Nat) (J:Array Bool) (a:Act) (w:World),I J ->
   (∀j oj,ops[j]?=some oj->j≠i->J.getD j true=false->(∀e∈oj.after,Region.binds md e=true->e.on≠i)->oi.apart ops oj=true) ->
   i∈Region.ready md ops J->YieldsIf P ops T oi v a->(Cb ops X J=false->S w) ->
   wpX P md ops Q S X n (J.setIfInBounds i true) (a.put oi.dst v) w->wpX P md ops Q S X (n+1) J a w:=by
 have cC:∀l w,I l->(Cb ops X l=false->S w)->T w:=λl w hl h=>by
  cases e:Cb ops X l with
  | true=>exact(hF l hl).2.2 e w
  | false=>exact(hF l hl).1 ((hF l hl).2.1 e) w (h e)
 have cB:∀l w,I l->(Cb ops X l=false->S w)->Cb ops X (l.setIfInBounds i true)=false->S w:=λl w hl h U=>by
  cases e:Cb ops X l with
  | false=>exact h e
  | true=>
   rw[Cb,List.all_eq_true]at e;unfold Cb at U;rw[List.all_eq_false]at U;obtain⟨k,hk,Y⟩:=U;have h4:=e k hk;exfalso;apply Y;by_cases hki:k=i
   ·subst hki
    rcases Nat.lt_or_ge k l.size with h5|h5
    ·simp[h5]
    ·simp[h5]
   ·rw[getD_set_ne true (λh=>hki h.symm)];exact h4
 intro n;induction n with
 | zero=>
  intro J a w O _ hr hy hS H;refine⟨(λh=>by rw[h]at hr;cases hr),λj hj=>?_⟩;by_cases hji:j=i
  ·subst hji;exact hy.wpOp hi (cC _ _ O hS) ⟨cB _ _ O hS,H⟩
  ·have h1:=ready_mono hj hji
   rw[H.1]at h1;cases h1
 | succ n ih=>
  intro J a w O V hr hy hS H;refine⟨(λh=>by rw[h]at hr;cases hr),λj hj=>?_⟩;by_cases hji:j=i
  ·subst hji;exact hy.wpOp hi (cC _ _ O hS) ⟨cB _ _ O hS,H⟩
  have h1:=H.2 j (ready_mono hj hji);obtain⟨cG,oj,aX,cD⟩:=mem_ready.1 hj
  have gA:J.getD i false=false:=by
   have h0:=(mem_ready.1 hr).1;rcases Nat.lt_or_ge i J.size with U|U
   ·simp[U]at h0 ⊢;exact h0
   ·simp[Array.getElem?_eq_none U]
  have gF:∀e∈oj.after,Region.binds md e=true->e.on≠i:=λe he hb U=>by
   have Y:=cD e he hb;rw[U,gA]at Y;cases Y
  have U:=wpOp_putIf aX (V j oj aX hji cG gF) (λcs b=>Z i oi cs b hi) (λcs b=>Z j oj cs b aX) hQ hy h1;refine wpOp_mono (λa' w' Y=>?_) U;have bE:=hI J j O hji hj;have cA:Cb ops X (J.setIfInBounds j true)=false->S w':=λe=>Y.2.1 (by rw[Array.setIfInBounds_comm _ _ (Ne.symm hji)];exact(hF _ bE).2.1 e)
  refine⟨cA,ih _ a' w' bE (λq oq hq gL cT gN=>V q oq hq gL ?_ gN) (ready_mono hr (Ne.symm hji)) Y.1 cA ?_⟩
  ·by_cases hjq:j=q
   ·subst hjq;exact cG
   ·rw[getD_set_ne true hjq]at cT;exact cT
  ·rw[Array.setIfInBounds_comm _ _ hji]
   exact Y.2.2
theorem Sm {I:Array Bool} {i:Nat} (h:aS md ops X I i=true):∃k J,ops[k]?=some J/\k≠i/\I.getD k true=false/\X.contains k=false/\∃e∈J.after,Region.binds md e=true/\e.on=i:=by
 rw[aS,List.any_eq_true]at h;obtain⟨k,_,h⟩:=h;cases hk:ops[k]? with
 | none=>rw[hk]at h;simp at h
 | some o=>
  rw[hk]at h;simp only[Bool.and_eq_true,bne_iff_ne,ne_eq,Bool.not_eq_true',beq_iff_eq,Array.any_eq_true']at h;obtain⟨⟨⟨U,V⟩,O⟩,e,Y,Z,h5⟩:=h;exact⟨k,o,hk,U,V,O,e,Y,Z,h5⟩
theorem jC (X:List Nat) {id:Nat} {a:Act} {w:World} (S:World->Prop) (I:∀W,Below w.heap.size w W->S W) (h:Hd (∀W,Below w.heap.size w W->S W)->S w.drew->wpX P .any ops Q S X ops.size (Array.replicate ops.size false) a w.drew) (J:P.follows .mixedOrders=true:=by kernel_rfl):(Code.region id ops true).wp P Q a w:=
 wp_region_any J (wpX.any _ _ _ _ (h (Kh I) (I _ (Below.refl _ w).drew)))
theorem C8 (i:Nat) {Y:Oper} {v:Value} {n d:Nat} {I:Array Bool} {a a':Act} {w:World} (h:wpX P md ops Q S X n (I.setIfInBounds i true) a' w)
  (hi:ops[i]?=some Y:=by rfl) (hS:S w:=by assumption) (hw:Region.wanted Y (yielded ops a.tmps)=true:=by rfl)
  (hy:∀w,S w->(execOp a.eval Y).run P w=.ok (.value v) w:=by intro w bA;(try dsimp only at bA);go_simp;(try with_reducible rfl))
  (hd:Y.dst=some d:=by rfl) (ha:a.put (some d) v=a':=by(try simp only[Act.put,List.setIfInBounds_toArray,List.set_cons_zero,List.set_cons_succ]);rfl)
  (hs:Region.noSelect ops=true:=by kernel_rfl) (hf:Region.free md ops I i=true:=by kernel_rfl) (hr:(Region.ready md ops I).contains i=true:=by kernel_rfl) (hk:aS md ops X I i=true:=by kernel_rfl)
  (hQ:∀c a w,Q (.panic c) (a.put Y.dst v) w->Q (.panic c) a w:=by exact λ_ _ _ h=>h):wpX P md ops Q S X (n+1) I a w:=by
 subst ha;rw[<-hd]at h;obtain⟨k,ok,h1,h2,h3,h0,e0,bC,bB,cA⟩:=Sm hk;have V:k<ops.size:=(Array.getElem?_eq_some_iff.1 h1).1;refine wpX.first (T:=S) hi (Region.noSelect_spec hs) hQ (λl=>l.getD k true=false/\l.getD i false=false) (λl j O bE hj=>?_) (λl O=>?_) n I a w ⟨h3,?_⟩ (Region.free_spec hi hf) (by simpa using hr) (.inl ⟨hw,hy⟩) (λ_=>hS) h
 ·obtain⟨_,oj,cB,U⟩:=mem_ready.1 hj
  refine⟨?_,?_⟩
  ·have bY:j≠k:=λZ=>by
    subst Z;rw[cB]at h1;cases h1;have J:=U e0 bC bB;rw[cA,O.2]at J;cases J
   rw[getD_set_ne true bY];exact O.1
  ·rw[getD_set_ne false bE];exact O.2
 ·have hn:Cb ops X l=false:=My V h0 O.1
  exact⟨λ_ w h=>h,λ_=>My V h0 (by rw[getD_set_ne true h2.symm];exact O.1),λh=>by rw[hn]at h;cases h⟩
 ·have cC:i∈Region.ready md ops I:=by simpa using hr
  have Z:=(mem_ready.1 cC).1;rcases Nat.lt_or_ge i I.size with J|J
  ·simp[J]at Z ⊢;exact Z
  ·simp[Array.getElem?_eq_none J]
theorem lG (i:Nat) {J:Oper} {v:Value} {n d:Nat} {I:Array Bool} {a O:Act} {w:World} (h:wpX P md ops Q S X n (I.setIfInBounds i true) O w)
  (U:ops[i]?=some J:=by rfl) (Y:S w:=by assumption) (hw:Region.wanted J (yielded ops a.tmps)=true:=by rfl)
  (hy:∀w,(execOp a.eval J).run P w=.ok (.value v) w:=by intro w;go_simp;(try with_reducible rfl))
  (hd:J.dst=some d:=by rfl) (ha:a.put (some d) v=O:=by(try simp only[Act.put,List.setIfInBounds_toArray,List.set_cons_zero,List.set_cons_succ]);rfl)
  (hs:Region.noSelect ops=true:=by kernel_rfl) (hf:Region.free md ops I i=true:=by kernel_rfl) (hr:(Region.ready md ops I).contains i=true:=by kernel_rfl) (Z:X.contains i=true:=by kernel_rfl)
  (V:∀c a w,Q (.panic c) (a.put J.dst v) w->Q (.panic c) a w:=by exact λ_ _ _ h=>h):wpX P md ops Q S X (n+1) I a w:=by
 subst ha;rw[<-hd]at h;exact wpX.first (T:=λ_=>True) U (Region.noSelect_spec hs) V (λ_=>True) (λ_ _ _ _ _=>trivial) (λl _=>⟨λ_ _ _=>trivial,λh=>by rw[K6 Z];exact h,λ_ _=>trivial⟩) n I a w trivial (Region.free_spec U hf) (by simpa using hr) (.inl ⟨hw,λw _=>hy w⟩) (λ_=>Y) h
theorem aA (i:Nat) {o:Oper} {n:Nat} {I:Array Bool} {a:Act} {w:World}
  (Y:ops[i]?=some o) (h:∀J:Act->World->Prop,Shut (∀a w,S w->(S w->wpX P md ops Q S X n (I.setIfInBounds i true) a w)->J a w)->if Region.wanted o (yielded ops a.tmps)=true then Oper.wp P o a w J Q else J (a.put o.dst undef) w)
  (hr:Region.ready md ops I=[i]:=by kernel_rfl):wpX P md ops Q S X (n+1) I a w:=by
 refine⟨(λe=>by rw[hr]at e;cases e),λj U=>?_⟩;rw[hr,List.mem_singleton]at U;subst U;refine wpOp_step Y λJ hK=>?_
 exact h J λa w O V=>hK a w ⟨λ_=>O,V O⟩
theorem dW (i j:Nat) {V Y:Oper} {n:Nat} {I:Array Bool} {a:Act} {w:World} (h:ops[i]?=some V) (aX:ops[j]?=some Y)
  (hi:∀J:Act->World->Prop,Shut (∀a w,S w->(S w->wpX P md ops Q S X n (I.setIfInBounds i true) a w)->J a w)->if Region.wanted V (yielded ops a.tmps)=true then Oper.wp P V a w J Q else J (a.put V.dst undef) w)
  (hj:∀J:Act->World->Prop,Shut (∀a w,S w->(S w->wpX P md ops Q S X n (I.setIfInBounds j true) a w)->J a w)->if Region.wanted Y (yielded ops a.tmps)=true then Oper.wp P Y a w J Q else J (a.put Y.dst undef) w)
  (hr:Region.ready md ops I=[i,j]:=by kernel_rfl):wpX P md ops Q S X (n+1) I a w:=by
 refine⟨(λe=>by rw[hr]at e;cases e),λk U=>?_⟩;rw[hr]at U;have U:k=i∨k=j:=by simpa using U
 rcases U with rfl|rfl
 ·refine wpOp_step h λJ hK=>?_
  exact hi J λa w O Z=>hK a w ⟨λ_=>O,Z O⟩
 ·refine wpOp_step aX λJ hK=>?_
  exact hj J λa w O Z=>hK a w ⟨λ_=>O,Z O⟩
theorem nH (i:Nat) {o:Oper} {n:Nat} {I:Array Bool} {a:Act} {w:World}
  (V:ops[i]?=some o) (h:∀J:Act->World->Prop,Shut (∀a w,Q .normal a w->J a w)->if Region.wanted o (yielded ops a.tmps)=true then Oper.wp P o a w J Q else J (a.put o.dst undef) w)
  (hr:Region.ready md ops I=[i]:=by kernel_rfl)
  (hn:Region.ready md ops (I.setIfInBounds i true)=[]:=by kernel_rfl) (U:Cb ops X (I.setIfInBounds i true)=true:=by kernel_rfl):wpX P md ops Q S X (n+1) I a w:=by
 refine⟨(λe=>by rw[hr]at e;cases e),λj O=>?_⟩;rw[hr,List.mem_singleton]at O;subst O;refine wpOp_step V λJ hK=>?_
 refine h J λa w hq=>hK a w ⟨(λe=>by rw[U]at e;cases e),?_⟩
 cases n with
 | zero=>exact⟨hn,hq⟩
 | succ n=>exact⟨λ_=>hq,λj O=>by rw[hn]at O;cases O⟩
theorem eH (i:Nat) {J:Oper} {v:Value} {n d:Nat} {I:Array Bool} {a O:Act} {w:World} (h:wpX P md ops Q S X n (I.setIfInBounds i true) O w)
  (U:ops[i]?=some J:=by rfl) (hl:Cb ops X I=true:=by kernel_rfl) (hw:Region.wanted J (yielded ops a.tmps)=true:=by rfl)
  (hy:∀w,(execOp a.eval J).run P w=.ok (.value v) w:=by intro w;go_simp;(try with_reducible rfl))
  (hd:J.dst=some d:=by rfl) (Z:a.put (some d) v=O:=by(try simp only[Act.put,List.setIfInBounds_toArray,List.set_cons_zero,List.set_cons_succ]);rfl)
  (hs:Region.noSelect ops=true:=by kernel_rfl) (hf:Region.free md ops I i=true:=by kernel_rfl) (hr:(Region.ready md ops I).contains i=true:=by kernel_rfl) (Y:X.contains i=true:=by kernel_rfl)
  (V:∀c a w,Q (.panic c) (a.put J.dst v) w->Q (.panic c) a w:=by exact λ_ _ _ h=>h):wpX P md ops Q S X (n+1) I a w:=by
 subst Z;rw[<-hd]at h;exact wpX.first (T:=λ_=>True) U (Region.noSelect_spec hs) V (λ_=>True) (λ_ _ _ _ _=>trivial) (λl _=>⟨λ_ _ _=>trivial,λh=>by rw[K6 Y];exact h,λ_ _=>trivial⟩) n I a w trivial (Region.free_spec U hf) (by simpa using hr) (.inl ⟨hw,λw _=>hy w⟩) (λe=>by rw[hl]at e;cases e) h
theorem fG (i:Nat) {o:Oper} {n:Nat} {I:Array Bool} {a:Act} {w:World}
  (Y:ops[i]?=some o) (h:∀J:Act->World->Prop,Shut (∀a w,wpX P md ops Q S X n (I.setIfInBounds i true) a w->J a w)->if Region.wanted o (yielded ops a.tmps)=true then Oper.wp P o a w J Q else J (a.put o.dst undef) w)
  (hr:Region.ready md ops I=[i]:=by kernel_rfl) (V:Cb ops X (I.setIfInBounds i true)=true:=by kernel_rfl):wpX P md ops Q S X (n+1) I a w:=by
 refine⟨(λe=>by rw[hr]at e;cases e),λj O=>?_⟩;rw[hr,List.mem_singleton]at O;subst O;refine wpOp_step Y λJ hK=>?_
 exact h J λa w U=>hK a w ⟨(λe=>by rw[V]at e;cases e),U⟩
theorem fA {n:Nat} {I:Array Bool} {a:Act} {w:World} (h:Q .normal a w) (hr:Region.ready md ops I=[]:=by kernel_rfl):wpX P md ops Q S X n I a w:=by
 cases n with
 | zero=>exact⟨hr,h⟩
 | succ n=>exact⟨λ_=>h,λj J=>by rw[hr]at J;cases J⟩
end
end Go.Proofs.YtenlbhlllgppmaaGreatDoor
namespace Go.Proofs.YtenlbhlllgppmaaGreatDoor
open Tryz
open Go.RowKit Eli
theorem Ml (s:Bool) (p:Option Addr) (n c:Nat) (t:Bool) (q:Option Addr) (m d:Nat) (x:Rat) (w:World) (h:Qs w s p n c t q m d x) (hx:hq x<=1000000000000):
  Calls prog 121 #[.agg #[.bool s,.slice p n c,.bool t,.slice q m d]] w λe w'=>e=.returned (.bool (!decide (x=0)))/\Below w.heap.size w w':=by
 have Y:=Kh h;clear h;go_enter func121,ntmps121
 go_wp2_with fail
 obtain⟨w0,U,Z,I⟩:=bx1 w #[.bool s,.slice p n c,.bool t,.slice q m d] 86;rw[U];refine(Xh s p n c t q m d x w0 (Y.1.keep I) hx).mono ?_;rintro e w1 ⟨⟨sg,rfl,J⟩,O⟩;have V:=Kh (I.trans (O.mono I.size))
 have hv:(sg != 0) = !decide (x=0):=by
  by_cases e:x=0
  ·rw[decide_eq_true e,J.2 e];rfl
  ·rw[decide_eq_false e,Bool.not_false,bne_iff_ne];exact λh=>e (J.1 h)
 clear Z I U O J;go_wp2;go_ret;exact⟨rfl,V.1⟩
def divQ (F:Nat->Rat) (x:Rat) (k:Nat):Nat->FP:=λj=>IsQ (if j<k then 1 / x*F j else F j)
theorem divQ.done {F:Nat->Rat} {x:Rat} {k:Nat} {w:World} {g N:Nat} (h:QRow (divQ F x k) w g N N) (I:F k=0):QRow (divQ F x (k+1)) w g N N:=
 QRow.congr h (λj _=>by
  unfold divQ;by_cases hj:j<k
  ·rw[if_pos hj,if_pos (by omega)]
  ·rw[if_neg hj]
   by_cases hj2:j=k
   ·rw[if_pos (by omega),hj2,I,Rat.mul_zero]
   ·rw[if_neg (by omega)])
theorem divQ.put {F:Nat->Rat} {x:Rat} {k:Nat} {w:World} {g N:Nat} (h:QRow (divQ F x k) w g N N) (J:k<N) {s:Bool} {p:Option Addr} {n c:Nat} {t:Bool} {q:Option Addr} {m d:Nat} (hq:Qs w s p n c t q m d (F k / x)):
  QRow (divQ F x (k+1)) ((((w.setCell ⟨g,k*4,none⟩ (.bool s)).setCell ⟨g,k*4+1,none⟩ (.slice p n c)).setCell ⟨g,k*4+2,none⟩ (.bool t)).setCell ⟨g,k*4+3,none⟩ (.slice q m d)) g N N:=
 QRow.set (λ_=>IsQ.solid _) h k J _ (IsQ.solid _) (λi I O=>⟨I,by
  unfold divQ;by_cases hj:i<k
  ·rw[if_pos hj,if_pos (by omega)]
  ·rw[if_neg hj,if_neg (by omega)]⟩) (show IsQ (if k<k+1 then 1 / x*F k else F k) w s p n c t q m d by rw[if_pos (nU k),show 1 / x*F k=F k / x by grind];exact hq)
theorem divQ.elem {F:Nat->Rat} {x:Rat} {k:Nat} {w:World} {g N:Nat} (h:QRow (divQ F x k) w g N N) (J:k<N):QE (IsQ (F k)) w g (k*4):=by
 have I:=QRow.val h k J;unfold divQ at I;rw[if_neg (Nat.lt_irrefl k)]at I;exact I
theorem GM.base {F:Nat->Nat->Rat} {m C:Nat} {w:World} {G:Nat} {gs:Nat->Nat} {B B':Nat} (h:GM F m C w G gs B) (hB:B'<=B):GM F m C w G gs B':=
 ⟨h.stk,h.free,nS hB h.hB,h.at_,h.row,λi I=>nS hB (h.ge i I),h.ne,h.inj⟩
theorem GM.made (F:Nat->Nat->Rat) (C:Nat) (w:World) (R:Nat) (gs:Nat->Nat):GM F 0 C (w.alloc (.cells (madeCells #[.slice none 0 0] R) 30)) w.heap.size gs w.heap.size/\∀i,i<R->((w.alloc (.cells (madeCells #[.slice none 0 0] R) 30)).cell? ⟨w.heap.size,i,none⟩).isSome=true:=by
 have h:=RowTab.made F C w R;exact⟨⟨h.stk,λi=>(Blk.new w 30 (madeCells #[.slice none 0 0] R)).free_ i,nR _,λi I=>absurd I (Nat.not_lt_zero _),λi I=>absurd I (Nat.not_lt_zero _),λi I=>absurd I (Nat.not_lt_zero _),λi I=>absurd I (Nat.not_lt_zero _),λi j I=>absurd I (Nat.not_lt_zero _)⟩,h.has⟩
theorem Y3 (n:Nat) (h:n<=1000000) (w:World):
  (Instr.makeSlice 118 (.int .i64 (n:Int)) (.int .i64 (n:Int))).run prog w=.ok (.slice (some ⟨w.heap.size,0,none⟩) n n) (w.alloc (.cells (madeCells #[.slice none 0 0] n) 30)):=by
 obtain⟨i,U,I,J,O⟩:=info_parts Lk;have hr:=run_make (P:=prog) w 118 30 i _ underlying118 U I .i64 .i64 n n (by omega) (Int.le_refl _) (by rw[O];omega) (by omega);rw[Int.toNat_natCast,J,Nat.mul_one]at hr;exact hr
theorem Gg (n:Nat) (w:World) (hn:n<=1024):Calls prog 54 #[.int .i64 n] w λe w'=>e=.returned (.bool true)/\Below w.heap.size w w':=by
 have I:(0:Int)<=(n:Int):=by omega
 have J:(n:Int)<=1024:=by omega
 go_enter func54,ntmps54
 go_wp2;go_ret;exact⟨rfl,Below.refl _ _⟩
theorem Jm (R C V:Nat) (pA:Option Addr) (cA:Nat) (w:World) (hR:R<=1024) (hC:C<=1024) (J:R*C=V):Calls prog 69 #[.agg #[.int .i64 R,.int .i64 C,.slice pA V cA]] w λe w'=>e=.returned (.bool true)/\Below w.heap.size w w':=by
 have cC:V<=1048576:=by rw[<-J];exact Nat.mul_le_mul hR hC
 have bE:(R:Int)*(C:Int)=(V:Nat):=by rw[<-J];push_cast;rfl
 clear J;go_enter func69,ntmps69
 go_wp2_with fail
 obtain⟨w0,Y,X0,O⟩:=bx1 w #[.int .i64 R,.int .i64 C,.slice pA V cA] 32;rw[Y];refine(Gg R w0 hR).mono ?_;rintro e w1 ⟨rfl,I⟩;have Z:=X0.below_ I X0.lt;have x1:=Z.at_ 1 rfl;go_wp2_with fail
 refine(Gg C w1 hC).mono ?_;rintro e w2 ⟨rfl,U⟩;have h:=Z.below_ U Z.lt;have y0:=h.at_ 0 rfl;have y1:=h.at_ 1 rfl;have y2:=h.at_ 2 rfl;have HB:=Kh (O.trans ((I.trans (U.mono I.size)).mono O.size));clear Y X0 O I U Z h x1;go_wp2;go_ret;exact⟨rfl,HB.1⟩
theorem W9 (F:Nat->Nat->Rat) (m C t G cap:Nat) (gs:Nat->Nat) (B0:Nat) (w:World) (h:GM F m C w G gs B0) (ht:t<=m) (hm:m<=1024) (nA:0<C) (hC:C<=1024):
  Calls prog 55 #[.int .i64 C,.slice (some ⟨G,0,none⟩) t cap] w λe w'=>(∃v,e=.returned (.agg #[.int .i64 t,.int .i64 C,v])/\OwnQ (λp=>IsQ (F (p / C) (p % C))) w' w.heap.size v (t*C))/\Below w.heap.size w w':=by
 have HG:=Kh h;clear h;go_enter func55,ntmps55
 go_wp2_with fail
 obtain⟨w0,hD,X0,gL⟩:=bx1 w #[.int .i64 0,.int .i64 0,.slice none 0 0] 32;rw[hD];obtain⟨wx,cT⟩:∃wx,w0.alloc (.cells #[.int .i64 t,.int .i64 C,.slice none 0 0] 32)=wx:=⟨_,rfl⟩
 have gP:Below w0.heap.size w0 wx:=cT▸(Below.refl _ _).alloc (nR _) _;have Y:Blk wx w0.heap.size 32 #[.int .i64 t,.int .i64 C,.slice none 0 0]:=cT▸Blk.new w0 32 #[.int .i64 t,.int .i64 C,.slice none 0 0];rw[cT];have hP:w0.heap.size=w.heap.size+1:=by rw[<-hD];simp
 obtain⟨ob,bE⟩:∃x,w.heap.size+1=x:=⟨_,rfl⟩
 have gU:w0.heap.size=ob:=hP.trans bE;obtain⟨O,cG⟩:∃x,w.heap.size=x:=⟨_,rfl⟩
 rw[gU]at Y;rw[bE];rw[cG]at X0 ⊢;have J:=Kh (show O<ob by rw[<-gU];exact X0.lt);have bC:=Kh cG;have hU:=Kh (show Below O w wx from cG▸gL.trans (gP.mono gL.size));have aX:=Kh (show Blk wx O 32 #[.int .i64 0,.int .i64 0,.slice none 0 0]from X0.below_ gP X0.lt);obtain⟨BB,cD⟩:∃x,wx.heap.size=x:=⟨_,rfl⟩
 have dE:=Kh cD;obtain⟨V,hV⟩:∃V:Nat->FP,(λp=>IsQ (F (p / C) (p % C)))=V:=⟨_,rfl⟩
 have gA:=Kh (show ∀j,Bu (V j)from λj=>by rw[<-hV];exact IsQ.solid _)
 have mC:=Kh (show ∀k i,i<C->V (k*C+i)=IsQ (F k i)from λk i hi=>by
  rw[<-hV];dsimp only;rw[show(k*C+i) / C=k by rw[Nat.mul_comm,Nat.mul_add_div (by omega),Nat.div_eq_of_lt hi,Nat.add_zero],show(k*C+i) % C=i by rw[Nat.mul_comm,Nat.mul_add_mod,Nat.mod_eq_of_lt hi]])
 have mB:=Kh hV
 have hH:=Kh (show MatAt V wx ob BB t C (0*C)from
  ⟨by rw[<-cD];exact Y.lt,Nat.le_of_eq cD.symm,Y.at_ 0 rfl,Y.at_ 1 rfl,⟨none,0,by rw[Nat.zero_mul];exact Y.at_ 2 rfl,by rw[Nat.zero_mul];exact OwnQ.nil _ _ _⟩,Y.free_ 2,Stk.of Y (by intro v hv;simp at hv;rcases hv with rfl|rfl|rfl <;> exact λ_ h=>by cases h)⟩)
 clear cT gP Y gU bE hP cG cD hV hD X0 gL;go_loopw [14] (λii wr=>∃k:Nat,k<=t/\ii=.int .i64 k/\MatAt V wr ob BB t C (k*C)/\wx.grownBy wr (some ob)) (λii _=>t - (intOf ii).toNat)
 case atStart=>exact⟨0,Nat.zero_le _,rfl,hH.1,Af ob (Below.refl _ _)⟩
 case round=>
  obtain⟨k,hk,rfl,dC,hN⟩:=hrel;obtain⟨we,rfl⟩:∃we:World,we=wr:=⟨_,rfl⟩
  have I:=Kh dC;have Z:=Kh hN;clear dC hN hH;have dY:=Kh (show Below O w we from Ae hU.1 Z.1 (by have:=dE.1;have:=I.1.lt;have:=J.1;omega) (Nat.le_of_lt J.1));by_cases hlt:k<t
  ·have oK:(k:Int)<(t:Int):=by omega
   have gN:=dY.1;rw[<-bC.1]at gN;have gS:=HG.1.keep gN;have r4:=gS.at_ k (by omega);have cC:=Kh (gS.row k (by omega));obtain⟨p,c,g2,xs,hK,gF⟩:=I.1.c2;obtain⟨n,hn⟩:∃x,k*C=x:=⟨_,rfl⟩
   have oL:n<=1024*1024:=by rw[<-hn];exact Nat.mul_le_mul (by omega:k<=1024) hC
   rw[hn]at g2 hK gF I;have hZ:=Kh (show n+C=(k+1)*C by rw[<-hn,Nat.add_mul,Nat.one_mul]);have hG:=Kh (show ∀j,j<C->V (n+j)=IsQ (F k j)from λj hj=>by rw[<-hn];exact mC.1 k j hj);have HK:=Kh hK;have mD:=Kh gF;have hW:=Kh g2;have nW:ob<we.heap.size:=nT I.1.lt I.1.hB;clear gN gS hK gF hn;go_wp2_with (at_builtin;refine Im NotInt rfl (.tmp 19) (.tmp 20) _ 86 rfl underlying30 Gt rfl (by decide) BB n C (gs k) C (.slice p n c) xs (Au we (gs k) (C*4)) rfl HK.1 rfl (Bw _ _ _) cC.1.cells cC.1.one (by omega) (by omega) nA I.1.hB cC.1.ni lB ?_;intro v9 w9 bA bB hM;obtain⟨p9,c9,rfl⟩:=Ba bA.1;obtain⟨d2,df,hJ⟩:=I.1.more gA.1 hW.1 HK.1.1 (OwnQ.more gA.1 HK.1 mD.1 cC.1 bA bB hG.1) bB;have iL:=Kh hJ;have hX:=Kh ((Er Z.1 bB dE.1.symm (λb hb=>Cn HK.1.1 hb.symm)).trans (Ad w9 ob 2 (.slice p9 (n+C) c9)));clear hJ bA bB hM g2)
   go_roundw
   case rel=>exact⟨k+1,by omega,by go_num,by rw[<-hZ.1];exact iL.1,hX.1⟩
   case measure=>simp[intOf];omega
  ·obtain rfl:t=k:=by omega
   obtain⟨p,c,g2,hL⟩:=I.1.c2;have cF:O≠ob:=Nat.ne_of_lt J.1;have U:=Z.1.block O (by rw[dE.1];have:=J.1;have:=I.1.lt;omega) (λe=>by injection e with e;exact cF e);have r0:=Z.1.cell (aX.1.at_ 0 rfl) (λe=>by injection e with e;exact cF e);have r1:=Z.1.cell (aX.1.at_ 1 rfl) (λe=>by injection e with e;exact cF e);have r2:=Z.1.cell (aX.1.at_ 2 rfl) (λe=>by injection e with e;exact cF e);have f0:we.frozen? ⟨O,0,none⟩=false:=(World.frozen?_of_block (a:=⟨O,0,none⟩) U).trans (aX.1.free_ 0);have f1:we.frozen? ⟨O,1,none⟩=false:=(World.frozen?_of_block (a:=⟨O,1,none⟩) U).trans (aX.1.free_ 1);have f2:we.frozen? ⟨O,2,none⟩=false:=(World.frozen?_of_block (a:=⟨O,2,none⟩) U).trans (aX.1.free_ 2);have bY:Stk NotU32 wx O:=Stk.of aX.1 (by intro v hv;simp at hv;rcases hv with rfl|rfl|rfl <;> exact λ_ h=>by cases h);have hO:Stk NotU32 we O:=⟨nT bY.1 Z.1.size,λi u hu=>bY.2 i u ((World.cell?_of_block (a:=⟨O,i,none⟩) U).symm.trans hu)⟩
   have a0:=I.1.c0;have a1:=I.1.c1;have eP:=Kh (A9 (w:=we) (R:=O) (v0:=.int .i64 (t:Int)) (v1:=.int .i64 (C:Int)) (v2:=.slice p (t*C) c) (by rw[r0];rfl) (by rw[r1];rfl) (by rw[r2];rfl));have hY:=Kh (Cc hO (v0:=.int .i64 (t:Int)) (v1:=.int .i64 (C:Int)) (v2:=.slice p (t*C) c) (λ_ h=>by cases h) (λ_ h=>by cases h));have hE:=Kh (((Ad we O 0 (.int .i64 (t:Int))).trans (Ad _ O 1 (.int .i64 (C:Int)))).trans (Ad _ O 2 (.slice p (t*C) c)));have mA:=Kh hL;clear hL U bY hO;go_wp2;have e0:=eP.1.1;have e1:=eP.1.2.1;have e2:=eP.1.2.2;try simp only[Exit.inBlock,Exit.then]
   refine bodyPost_ret (by simp[results,results55,go_sem,e0,e1,e2];try rfl) rfl ?_;refine⟨⟨_,rfl,?_⟩,?_⟩
   ·rw[mB.1]
    obtain⟨xs,h1,h2⟩:=mA.1.box gA.1 hY.1 hE.1 (by have:=J.1;have:=I.1.lt;omega)
    exact⟨xs,⟨⟨h1.1.1,by
     rcases h1.1.2 with h |⟨g',cap,cs,e,oG,hr⟩
     ·exact .inl h
     ·exact .inr ⟨g',cap,cs,e,by have:=bC.1;have:=J.1;have:=I.1.lt;omega,hr⟩⟩,h1.2⟩,h2⟩
   ·exact Ae (bC.1▸dY.1) hE.1 (by have:=dY.1.size;have:=bC.1;omega) (by have:=bC.1;omega)
theorem kM (p:Option Addr) (n c:Nat):∀u∈[Value.slice p n c],u.oneCell'=true:=by intro u I;simp at I;subst I;rfl
theorem mK (p:Option Addr) (n c:Nat):∀u∈[Value.slice p n c],SliceV u:=by intro u I;simp at I;subst I;exact⟨p,n,c,rfl⟩
theorem mJ:∀u∈(Value.slice none 0 0).cells.toList,SliceV u:=by
 intro u I;simp[Value.cells]at I;exact⟨none,0,0,I⟩
def RowsOwn (F:Nat->Nat->Rat) (k C:Nat) (w:World) (B:Nat) (v:Value):Prop:=
 ∃gs:Nat->Nat,OwnK SliceV w B 30 1 v k ((List.range k).map λi=>Value.slice (some ⟨gs i,0,none⟩) C C)/\∀i,i<k->QRow (λq=>IsQ (F i q)) w (gs i) C C
theorem RowsOwn.keep {F:Nat->Nat->Rat} {k C:Nat} {w w':World} {B:Nat} {v:Value} (h:RowsOwn F k C w B v) (I:Below w.heap.size w w'):RowsOwn F k C w' B v:=by
 obtain⟨gs,J,O⟩:=h;exact⟨gs,J.keep I,λi U=>(O i U).keep (λ_=>IsQ.solid _) I⟩
theorem RowsOwn.nil (F:Nat->Nat->Rat) (C:Nat) (w:World) (B:Nat):RowsOwn F 0 C w B (.slice none 0 0):=⟨λ_=>0,OwnK.nil _ _ _ _ _,λ_ I=>absurd I (Nat.not_lt_zero _)⟩
theorem QRow.not_sv {F:Nat->FP} {w:World} {g C r:Nat} (h:QRow F w g C C) (O:0<C) (U:Stk SliceV w r):g≠r:=λe=>by
 obtain⟨s,p,n,c,t,q,m,d,I,_⟩:=h.val 0 O;rw[e]at I;obtain⟨p',Y,V,J⟩:=U.2 _ _ I;cases J
theorem RowsOwn.push {F:Nat->Nat->Rat} {k C:Nat} {W w':World} {B:Nat} {v Y:Value} {gs:Nat->Nat} {g:Nat} (h:0<C) (O:OwnK SliceV W B 30 1 v k ((List.range k).map λi=>Value.slice (some ⟨gs i,0,none⟩) C C))
  (U:∀i,i<k->QRow (λq=>IsQ (F i q)) W (gs i) C C) (hr:QRow (λq=>IsQ (F k q)) W g C C) (Z:OwnK SliceV w' B 30 1 Y (k+1) (((List.range k).map λi=>Value.slice (some ⟨gs i,0,none⟩) C C)++[.slice (some ⟨g,0,none⟩) C C])) (hg:W.grownBy w' v.ownBlock):RowsOwn F (k+1) C w' B Y:=by
 have I:=I32.grownS O hg;have J:∀i b,QRow (λq=>IsQ (F i q)) W b C C->some b≠v.ownBlock:=λi b hb e=>hb.not_sv h (O.2 b e.symm) rfl
 refine⟨λi=>if i<k then gs i else g,?_,λi V=>?_⟩
 ·have e:((List.range (k+1)).map λi=>Value.slice (some ⟨if i<k then gs i else g,0,none⟩) C C)=((List.range k).map λi=>Value.slice (some ⟨gs i,0,none⟩) C C)++[.slice (some ⟨g,0,none⟩) C C]:=by
   rw[List.range_succ,List.map_append,List.map_singleton,if_neg (Nat.lt_irrefl k)];congr 1;exact List.map_congr_left (λi V=>by rw[if_pos (List.mem_range.1 V)])
  rw[e];exact Z
 ·by_cases hlt:i<k
  ·dsimp only
   rw[if_pos hlt];exact(U i hlt).grown (λ_=>IsQ.solid _) I hg (J i _ (U i hlt))
  ·obtain rfl:i=k:=by omega
   dsimp only;rw[if_neg hlt];exact hr.grown (λ_=>IsQ.solid _) I hg (J i _ hr)
def RowsIn (F:Nat->Nat->Rat) (k C:Nat) (w:World) (v:Value):Prop:=∃G c,v=.slice (some ⟨G,0,none⟩) k c/\G<w.heap.size/\∀i,i<k->∃g,w.cell? ⟨G,i,none⟩=some (.slice (some ⟨g,0,none⟩) C C)/\QRow (λq=>IsQ (F i q)) w g C C
theorem RowsIn.keep {F:Nat->Nat->Rat} {k C:Nat} {w w':World} {v:Value} (h:RowsIn F k C w v) (I:Below w.heap.size w w'):RowsIn F k C w' v:=by
 obtain⟨G,c,e,J,U⟩:=h;refine⟨G,c,e,nT J I.size,λi Y=>?_⟩;obtain⟨g,O,V⟩:=U i Y;exact⟨g,(I.cell (p:=⟨G,i,none⟩) J).trans O,V.keep (λ_=>IsQ.solid _) I⟩
end Go.Proofs.YtenlbhlllgppmaaGreatDoor
namespace Go.Proofs.YtenlbhlllgppmaaGreatDoor
open Tryz
open Go.RowKit
theorem lS (g c n:Nat) (f:Nat->Int) (w:World) (hg:g<w.heap.size) (hc:∀j,j<n->w.cell? ⟨g,j,none⟩=some (.int .i64 (f j))) (hf:∀j,j<n->-2147483648<=f j/\f j<=2147483648) (hn:n<=1000000):
  Calls prog 58 #[.slice (some ⟨g,0,none⟩) n c] w λe w'=>(∃v',e=.returned v'/\OwnQ (λj=>IsQ (f j:Rat)) w' w.heap.size v' n)/\Below w.heap.size w w':=by
 have HN:=Kh (OwnQ.nil (λj=>IsQ (f j:Rat)) w w.heap.size);have R1:=Kh hc;have HF:=Kh hf;clear hc hf;go_enter func58,ntmps58
 go_wp2;go_loopw [3,4] (λv i wr=>∃k:Nat,k<=n/\i=.int .i64 k/\OwnQ (λj=>IsQ (f j:Rat)) wr w.heap.size v k/\Below w.heap.size w wr) (λ_ i _=>n - (intOf i).toNat)
 case atStart=>exact⟨0,Nat.zero_le _,rfl,HN.1,Below.refl _ _⟩
 case round=>
  obtain⟨k,hk,rfl,ho,V⟩:=hrel;have HO:=Kh ho;have Y:=Kh V;clear ho HN;by_cases hlt:k<n
  ·have a0:wr.cell? ⟨g,k,none⟩=some (.int .i64 (f k)):=(V.cell (p:=⟨g,k,none⟩) hg).trans (R1.1 k hlt)
   have HC:=Kh (lR (f k) wr (HF.1 k hlt).1 (HF.1 k hlt).2);clear V;go_wp2_with fail
   refine HC.1.mono ?_;rintro e w2 ⟨⟨s,p1,i1,c1,t,q1,m,d1,rfl,hq⟩,O⟩;obtain⟨xs,hK,hX⟩:=HO.1.keep (λ_=>IsQ.solid _) O;have h:=Kh hK;have HX:=Kh hX;have HQ:=Kh (show IsQ (f k:Rat) w2 s p1 i1 c1 t q1 m d1 from hq);have J:=bt Y O;clear hK hX hq O HO Y a0 HC;go_wp2_with (at_builtin;refine B9 NotInt rfl (.tmp 11) (.tmp 17) _ 86 rfl underlying30 Gt rfl (by decide) w.heap.size k u3 xs [.bool s,.slice p1 i1 c1,.bool t,.slice q1 m d1] rfl h.1 rfl rfl (mZ _ _ _ _ _ _ _ _) (by omega) (by omega) J.1.size (nP _ _ _ _ _ _ _ _) lB ?_;intro v' w' I U bB;have bA:=Kh (OwnQ.push (W:=_) (λ_=>IsQ.solid _) h.1 HX.1 HQ.1 I U);have Z:=Kh (A7 J.1 h.1.1 U (nR _) J.1.size);clear I U bB)
   go_roundw
   case rel=>exact⟨k+1,by omega,by go_num,bA.1,Z.1⟩
   case measure=>simp[intOf];omega
  ·obtain rfl:k=n:=by omega
   clear V;go_wp2;go_ret;exact⟨⟨_,rfl,HO.1⟩,Y.1⟩
end Go.Proofs.YtenlbhlllgppmaaGreatDoor
