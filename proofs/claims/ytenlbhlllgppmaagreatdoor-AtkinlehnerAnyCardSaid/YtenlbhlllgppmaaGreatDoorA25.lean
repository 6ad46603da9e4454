/- Reduction by Gauss and Jordan: column by column, each pivot's column cleared in all rows. How large the entries are, and that the pivots and the reduced rows are those of the elimination with sparse rows. No program in sight. -/
import Derived.Test.YtenlbhlllgppmaaGreatDoorA24
set_option linter.unusedSimpArgs false
set_option maxRecDepth 100000
set_option maxHeartbeats 8000000
namespace Go.Proofs.YtenlbhlllgppmaaGreatDoor
open Tryz
namespace Eli
open Tryz
open Sie
structure GjAt (n B:Nat) (rows:Nat->Nat->Int) (m c:Nat) (ld:Nat->Bool) (L:Nat->Nat->Rat) (R:Nat->Nat->Int) (O:Nat->Nat->Rat) (A:(Nat->Rat)->Prop):Prop where
 inv:Inv B ld L R
 lt:∀p,ld p=true->p<c
 le:c<=n
 sp:∀p,ld p=true->RSp rows m (L p)
 outs:∀p,ld p=true->Sp ld L c (O p)/\O p p=1/\∀p',ld p'=true->p'≠p->O p p'=0
 rest:∀a,A a->(∀q,q<c->a q=0)/\∃i,i<m/\∃u,Sp ld L c u/\∀q,(rows i q:Rat)=a q+u q
 all:∀i,i<m->∃a u,(A a∨∀q,a q=0)/\Sp ld L c u/\∀q,(rows i q:Rat)=a q+u q
def unitQ (j q:Nat):Rat:=if q=j then 1 else 0
def unitZ (j q:Nat):Int:=if q=j then 1 else 0
theorem GjAt.start {n B m:Nat} {rows:Nat->Nat->Int} (hB:1<=B):GjAt n B rows m 0 (λ_=>false) unitQ unitZ (λ_ _=>0) (λa=>∃i,i<m/\∀q,a q=(rows i q:Rat)) where
 inv:=by
  constructor
  ·intro j q hq;rw[unitQ,if_neg (by omega)]
  ·intro j;rw[unitQ,if_pos rfl]
  ·intro j _ q;rfl
  ·intro j _ q;rfl
  ·intro p I;cases I
  ·intro p q;rw[unitZ];split
   ·exact hB
   ·exact Nat.zero_le _
 lt:=λp I=>by cases I
 le:=Nat.zero_le _
 sp:=λp I=>by cases I
 outs:=λp I=>by cases I
 rest:=λa ⟨i,J,M⟩=>⟨λq hq=>absurd hq (Nat.not_lt_zero _),i,J,λ_=>0,Sp.nil _ _ _,λq=>by rw[M];grind⟩
 all:=λi J=>⟨λq=>(rows i q:Rat),λ_=>0,.inl ⟨i,J,λ_=>rfl⟩,Sp.nil _ _ _,λq=>by grind⟩
section
variable {n B m c:Nat} {rows:Nat->Nat->Int} {ld:Nat->Bool} {L:Nat->Nat->Rat} {R:Nat->Nat->Int} {O:Nat->Nat->Rat} {A:(Nat->Rat)->Prop}
theorem GjAt.skip (h:GjAt n B rows m c ld L R O A) (hc:c<n) (V:∀a,A a->a c=0):GjAt n B rows m (c+1) ld L R O A where
 inv:=h.inv
 lt:=λp I=>Nat.lt_succ_of_lt (h.lt p I)
 le:=hc
 sp:=h.sp
 outs:=λp I=>⟨(h.outs p I).1.mono (Nat.le_succ _),(h.outs p I).2⟩
 rest:=λa U=>by
  obtain⟨J,i,M,u,hu,he⟩:=h.rest a U;refine⟨λq hq=>?_,i,M,u,hu.mono (Nat.le_succ _),he⟩;by_cases e:q=c
  ·rw[e];exact V a U
  ·exact J q (by omega)
 all:=λi M=>by
  obtain⟨a,u,J,Y,Z⟩:=h.all i M;exact⟨a,u,J,Y.mono (Nat.le_succ _),Z⟩
theorem GjAt.same_rest (h:GjAt n B rows m c ld L R O A) {A':(Nat->Rat)->Prop} (Y:∀a,A' a->∃b,A b/\∀q,a q=b q) (Z:∀a,A a->∃b,A' b/\∀q,b q=a q):GjAt n B rows m c ld L R O A' where
 inv:=h.inv
 lt:=h.lt
 le:=h.le
 sp:=h.sp
 outs:=h.outs
 rest:=λa ha=>by
  obtain⟨b,J,e⟩:=Y a ha;obtain⟨I,i,M,u,hu,he⟩:=h.rest b J;exact⟨λq hq=>by rw[e];exact I q hq,i,M,u,hu,λq=>by rw[e];exact he q⟩
 all:=λi M=>by
  obtain⟨a,u,I,U,V⟩:=h.all i M;rcases I with I|I
  ·obtain⟨b,J,e⟩:=Z a I
   exact⟨b,u,.inl J,U,λq=>by rw[e];exact V q⟩
  ·exact⟨a,u,.inr I,U,V⟩
theorem GjAt.rest_sp (h:GjAt n B rows m c ld L R O A) {u:Nat->Rat} (J:Sp ld L c u):RSp rows m u:=RSp.of_sp J (λj _ I=>h.sp j I)
theorem GjAt.pivot (h:GjAt n B rows m c ld L R O A) (hb:∀i q,(rows i q).natAbs<=B) (hc:c<n) {r:Nat->Rat} (hr:A r) (h0:r c≠0) {A':(Nat->Rat)->Prop} {O':Nat->Nat->Rat} {ld':Nat->Bool}
  (bH:∀j,ld' j=(ld j||decide (j=c)))
  (h1:∀a',A' a'->∃a,A a/\∀q,a' q=a q+-(a c)*(1 / r c*r q)) (h2:∀a,A a->(∀q,a q=r q)∨∃a',A' a'/\∀q,a' q=a q+-(a c)*(1 / r c*r q))
  (hO:∀q,O' c q=1 / r c*r q) (bG:∀p,ld p=true->∀q,O' p q=O p q+-(O p c)*(1 / r c*r q)):
  ∃L' R',GjAt n B rows m (c+1) ld' L' R' O' A':=by
 obtain⟨hz,i0,gL,u0,dC,cT⟩:=h.rest r hr
 have eV:ld c=false:=by
  cases e:ld c with
  | false=>rfl
  | true=>exact absurd (h.lt c e) (Nat.lt_irrefl _)
 have bY:ld' c=true:=by rw[bH,decide_eq_true rfl,Bool.or_true]
 have U:∀j,j≠c->ld' j=ld j:=λj M=>by rw[bH,decide_eq_false M,Bool.or_false]
 have gN:∀j,ld j=true->ld' j=true:=λj M=>by rw[bH,M,Bool.true_or]
 obtain⟨pv,I⟩:∃pv:Nat->Rat,∀q,pv q=1 / r c*r q:=⟨λq=>1 / r c*r q,λ_=>rfl⟩
 have aN:∀q,q<c->pv q=0:=λq hq=>by rw[I,hz q hq];grind
 have bE:pv c=1:=by rw[I];grind
 have cX:∀q,r q=r c*pv q:=λq=>by rw[I];grind
 obtain⟨L',cG⟩:∃L':Nat->Nat->Rat,L'=λj=>if j=c then pv else L j:=⟨_,rfl⟩
 have aD:L' c=pv:=by rw[cG];exact if_pos rfl
 have Z:∀j,j≠c->L' j=L j:=λj M=>by rw[cG];exact if_neg M
 have V:∀t u,Sp ld L t u->Sp ld' L' t u:=λt u hu=>hu.turn λj _ M=>by
  have aK:j≠c:=λe=>by rw[e,eV]at M;cases M
  exact⟨gN j M,Z j aK⟩
 have bA:∀u,Sp ld L c u->Sp ld' L' (c+1) u:=λu hu=>(V _ _ hu).mono (Nat.le_succ _)
 have J:Sp ld' L' (c+1) pv:=aD▸Sp.lead (mJ _) bY
 have cY:RSp rows m pv:=by
  have Y:RSp rows m (λq=>(rows i0 q:Rat)+(-1)*u0 q):=(RSp.row gL).combine (-1) (h.rest_sp dC);exact((RSp.nil rows m).combine (1 / r c) Y).congr (λq=>by rw[I,cT];grind)
 refine⟨L',λj=>if j=c then rows i0 else R j,?_⟩;constructor
 ·constructor
  ·intro j q hq
   by_cases e:j=c
   ·rw[e,aD];exact aN q (by omega)
   ·rw[Z j e];exact h.inv.low j q hq
  ·intro j
   by_cases e:j=c
   ·rw[e,aD];exact bE
   ·rw[Z j e];exact h.inv.one j
  ·intro j M q
   have e:j≠c:=λe=>by rw[e,bY]at M;cases M
   rw[Z j e];exact h.inv.free j (by rw[<-U j e];exact M) q
  ·intro j M q
   have e:j≠c:=λe=>by rw[e,bY]at M;cases M
   simp only[if_neg e];exact h.inv.rfree j (by rw[<-U j e];exact M) q
  ·intro p hp
   by_cases e:p=c
   ·subst e
    refine⟨r p,h0,u0,V _ _ dC,λq=>?_⟩;rw[if_pos rfl,cT,aD,<-cX]
   ·obtain⟨s,Y,u,hu,he⟩:=h.inv.got p (by rw[<-U p e];exact hp)
    refine⟨s,Y,u,V _ _ hu,λq=>?_⟩;rw[if_neg e,Z p e];exact he q
  ·intro p q
   show((if p=c then rows i0 else R p) q).natAbs<=B;split
   ·exact hb i0 q
   ·exact h.inv.bound p q
 ·intro p hp
  by_cases e:p=c
  ·omega
  ·exact Nat.lt_succ_of_lt (h.lt p (by rw[<-U p e];exact hp))
 ·exact hc
 ·intro p hp
  by_cases e:p=c
  ·rw[e,aD];exact cY
  ·rw[Z p e];exact h.sp p (by rw[<-U p e];exact hp)
 ·intro p hp
  by_cases e:p=c
  ·rw[e]
   refine⟨J.congr (λq=>by rw[hO,I]),by rw[hO,<-I];exact bE,λp' cB aK=>?_⟩;rw[hO,<-I];exact aN p' (h.lt p' (by rw[<-U p' aK];exact cB))
  ·have aX:ld p=true:=by rw[<-U p e];exact hp
   obtain⟨Y,h4,h5⟩:=h.outs p aX;have hlt:=h.lt p aX;refine⟨((bA _ Y).combine (-(O p c)) J).congr (λq=>by rw[bG p aX,I]),?_,λp' cB aK=>?_⟩
   ·rw[bG p aX,<-I,aN p hlt,h4];grind
   ·rw[bG p aX,<-I]
    by_cases e2:p'=c
    ·rw[e2,bE];grind
    ·have cV:ld p'=true:=by rw[<-U p' e2];exact cB
     rw[aN p' (h.lt p' cV),h5 p' cV aK];grind
 ·intro a' eP
  obtain⟨a,ha,ea⟩:=h1 a' eP;obtain⟨Y,i,hi,u,hu,he⟩:=h.rest a ha;refine⟨λq hq=>?_,i,hi,_,(bA _ hu).combine (a c) J,λq=>?_⟩
  ·rw[ea,<-I]
   by_cases e:q=c
   ·rw[e,bE];grind
   ·rw[aN q (by omega),Y q (by omega)];grind
  ·rw[he,ea,I];grind
 ·intro i hi
  obtain⟨a,u,Y,h4,h5⟩:=h.all i hi;rcases Y with Y|Y
  ·rcases h2 a Y with h6 |⟨a',h6,h7⟩
   ·refine⟨λ_=>0,_,.inr (λ_=>rfl),(bA _ h4).combine (r c) J,λq=>?_⟩
    rw[h5,h6,cX];grind
   ·refine⟨a',_,.inl h6,(bA _ h4).combine (a c) J,λq=>?_⟩
    rw[h5,h7,I];grind
  ·exact⟨a,u,.inr Y,bA _ h4,h5⟩
theorem Nz (n B:Nat):1<=top n B:=by
 rw[top];refine Bo.2 ?_;have h:0<cap n B:=Nat.pow_pos (Nat.succ_pos _);omega
theorem GjAt.rest_size (h:GjAt n B rows m c ld L R O A) (Z:∀i q,(rows i q).natAbs<=B) {a:Nat->Rat} (Y:A a) (q:Nat):hq (a q)<=top n B:=by
 obtain⟨M,i,hi,u,hu,he⟩:=h.rest a Y;obtain⟨k,N,J,I,V,U⟩:=h.inv.height (rows i) (Z i) a c u hu he M;rw[Dq J (U q)];exact Cz J (Ja h.le (V _)) (Fu h.le I)
theorem RSp.high {u:Nat->Rat} (J:RSp rows m u) (I:∀i q,n<=q->rows i q=0) (q:Nat) (hq:n<=q):u q=0:=by
 obtain⟨z,M⟩:=J;rw[M];exact A4 (λi _=>by rw[I i q hq];have:((0:Int):Rat)=0:=rfl;rw[this];grind)
theorem GjAt.unit (h:GjAt n B rows m c ld L R O A) (U:∀i q,n<=q->rows i q=0) {p:Nat} (J:ld p=true) (q:Nat):unitQ p q=sumQ (λf=>(if ld f then 0 else -(O p f))*L f q) n+O p q:=by
 obtain⟨V,Y,Z⟩:=h.outs p J;have aD:p<n:=mI (h.lt p J) h.le;rw[unitQ];by_cases hqn:q<n
 ·have M:sumQ (λf=>(if ld f then 0 else -(O p f))*L f q) n=(if ld q then 0 else -(O p q)):=by
   rw[Ba hqn (λi _ I=>?_)]
   ·cases hl:ld q with
    | true=>simp
    | false=>rw[h.inv.one];simp
   ·cases hl:ld i with
    | true=>simp
    | false=>rw[h.inv.free i hl,show(if q=i then(1:Rat)else 0)=0 from if_neg (λe=>I e.symm)];exact Rat.mul_zero _
  rw[M];cases hl:ld q with
  | true=>
   by_cases e:q=p
   ·rw[if_pos e,e,Y];simp;grind
   ·rw[if_neg e,Z q hl e];simp;grind
  | false=>
   have e:q≠p:=λe=>by rw[e,J]at hl;cases hl
   rw[if_neg e];simp;grind
 ·rw[if_neg (by omega),RSp.high (h.rest_sp V) U q (by omega),A4 (λi hi=>?_)]
  ·grind
  ·cases hl:ld i with
   | true=>simp
   | false=>rw[h.inv.free i hl,show(if q=i then(1:Rat)else 0)=0 from if_neg (by omega)];exact Rat.mul_zero _
theorem GjAt.out_size (h:GjAt n B rows m c ld L R O A) (hB:1<=B) (J:∀i q,n<=q->rows i q=0) {p:Nat} (V:ld p=true) (q:Nat):hq (O p q)<=top n B:=by
 obtain⟨M,Y,Z⟩:=h.outs p V;by_cases hqn:q<n
 ·cases hl:ld q with
  | true=>
   by_cases e:q=p
   ·rw[e,Y,Wu];exact Nz n B
   ·rw[Z q hl e,Ng];exact Nz n B
  | false=>
   obtain⟨k,N,U,I,hN,hE⟩:=h.inv.coords (unitZ p) (λq=>by rw[unitZ];split <;> simp <;> omega) n (λf=>-(O p f)) (O p) (M.mono h.le) (λq=>by
    rw[<-h.unit J V q,unitZ,unitQ];split <;> rfl)
   have h4:=hE q hqn hl;rw[<-Nf,Dq U h4];exact Cz U (Fu (mG _) (hN q hqn)) (Fu (mG _) I)
 ·rw[RSp.high (h.rest_sp M) J q (by omega),Ng];exact Nz n B
theorem GjAt.done (h:GjAt n B rows m c ld L R O A) (M:∀i q,n<=q->rows i q=0) (J:c=n∨∀a,¬A a) (i:Nat) (hi:i<m):Sp ld L n (λq=>(rows i q:Rat)):=by
 obtain⟨a,u,I,U,V⟩:=h.all i hi;refine(U.mono h.le).congr (λq=>?_)
 have Z:a q=0:=by
  rcases I with I|I
  ·rcases J with J|J
   ·by_cases hq:q<n
    ·exact(h.rest a I).1 q (by omega)
    ·have Y:=V q
     rw[M i q (by omega),RSp.high (h.rest_sp U) M q (by omega)]at Y;have:((0:Int):Rat)=0:=rfl;rw[this]at Y;grind
   ·exact absurd I (J a)
  ·exact I q
 rw[V,Z];grind
end
end Eli
end Go.Proofs.YtenlbhlllgppmaaGreatDoor
namespace Go.Proofs.YtenlbhlllgppmaaGreatDoor
open Tryz
open Go.RowKit Eli
def pvs (ld:Nat->Bool) (c:Nat):List Nat:=(List.range c).filter ld
theorem Pm (ld:Nat->Bool) (c:Nat):pvs ld (c+1)=if ld c then pvs ld c++[c]else pvs ld c:=by
 rw[pvs,List.range_succ,List.filter_append,List.filter_cons];cases ld c with
 | true=>rfl
 | false=>exact List.append_nil _
theorem Uq {ld ld':Nat->Bool} {c:Nat} (h:∀j,j<c->ld' j=ld j):pvs ld' c=pvs ld c:=List.filter_congr (λj I=>h j (List.mem_range.1 I))
theorem Sz {ld:Nat->Bool} {c p:Nat}:p∈pvs ld c↔p<c/\ld p=true:=by rw[pvs,List.mem_filter,List.mem_range]
def Wc (pv:Nat->Rat) (c:Nat) (x:Nat->Rat):Nat->Rat:=λq=>x q+-(x c)*pv q
theorem OwnG.all {l:List (Nat->Rat)} {N:Nat} {w:World} {B:Nat} {v:Value} {J:List Value} (O:OwnK SliceV w B 30 1 v l.length J) (U:∀(j:Nat) x,l[j]?=some x->∃vr,J[j]?=some vr/\RowV x N w vr):∀u∈J,SliceV u:=by
 intro u Y;obtain⟨j,V,e⟩:=List.getElem_of_mem Y;have Z:J.length=l.length:=by have:=O.1.1;omega
 obtain⟨vr,I,⟨p,c,M⟩,_⟩:=U j l[j] (List.getElem?_eq_getElem (by omega));rw[List.getElem?_eq_getElem V,e]at I;injection I with I
 exact⟨p,N,c,I.trans M⟩
theorem SliceV.one {u:Value} (h:SliceV u):u.oneCell'=true:=by
 obtain⟨p,n,c,rfl⟩:=h;rfl
theorem OwnG.val {l:List (Nat->Rat)} {N:Nat} {w:World} {B:Nat} {v:Value} (h:OwnG l N w B v):∃p c,v=.slice p l.length c:=by
 obtain⟨J,I,_⟩:=h;exact Bf I.1
theorem OwnN.val {l:List Nat} {w:World} {B:Nat} {v:Value} (h:OwnN l w B v):∃p c,v=.slice p l.length c:=Bf h.1
theorem OwnG.base {l:List (Nat->Rat)} {N:Nat} {w:World} {B B':Nat} {v:Value} (h:OwnG l N w B v) (hB:B'<=B):OwnG l N w B' v:=by
 obtain⟨U,I,O⟩:=h;refine⟨U,⟨⟨I.1.1,?_⟩,I.2⟩,O⟩;rcases I.1.2 with h |⟨M,cap,cs,e,J,hr⟩
 ·exact .inl h
 ·exact .inr ⟨M,cap,cs,e,mH hB J,hr⟩
theorem OwnG.ge {l:List (Nat->Rat)} {N:Nat} {w:World} {B g:Nat} {v:Value} (h:OwnG l N w B v) (e:v.ownBlock=some g):B<=g/\g<w.heap.size:=by
 obtain⟨J,I,_⟩:=h;exact⟨Ch I.1 e.symm,(I.2 g e).1⟩
theorem OwnN.ge {l:List Nat} {w:World} {B g:Nat} {v:Value} (h:OwnN l w B v) (e:v.ownBlock=some g):B<=g/\g<w.heap.size:=⟨Ch h.1 e.symm,(h.2 g e).1⟩
theorem OwnK.but {K:Value->Prop} {w w':World} {B E M n:Nat} {v:Value} {O:List Value} {R:Option Nat} (h:OwnK K w B E M v n O) (hg:w.grownBy w' R) (I:∀g,v.ownBlock=some g->R≠some g):OwnK K w' B E M v n O:=by
 refine⟨h.1.kept hg ?_,λg e=>?_⟩
 ·cases hv:v.ownBlock with
  | none=>exact .inl rfl
  | some g=>exact .inr (λe=>I g hv e.symm)
 ·have J:=h.2 g e
  have V:=hg.block g J.1 (λU=>I g e U.symm);exact⟨mI J.1 hg.size,λi u Y=>J.2 i u ((World.cell?_of_block (a:=⟨g,i,none⟩) V).symm.trans Y)⟩
theorem OwnG.but {l:List (Nat->Rat)} {N:Nat} {w w':World} {B:Nat} {v:Value} {R:Option Nat} (h:OwnG l N w B v) (U:∀r,R=some r->Stk SliceV w r) (hg:w.grownBy w' R) (I:I32 w w') (J:∀g,v.ownBlock=some g->R≠some g):OwnG l N w' B v:=by
 obtain⟨Y,M,O⟩:=h;exact⟨Y,M.but hg J,λj x V=>by obtain⟨vr,e,hr⟩:=O j x V;exact⟨vr,e,hr.grown U hg I⟩⟩
end Go.Proofs.YtenlbhlllgppmaaGreatDoor
namespace Go.Proofs.YtenlbhlllgppmaaGreatDoor
open Tryz
open Go.RowKit
namespace Eli
open Tryz
def inF (F:Nat->Nat->Rat) (a m:Nat):(Nat->Rat)->Prop:=λx=>∃i,a<=i/\i<m/\∀q,x q=F i q
structure GridAt (n B:Nat) (rows:Nat->Nat->Int) (m c t:Nat) (F:Nat->Nat->Rat) (ld:Nat->Bool) (L:Nat->Nat->Rat) (R:Nat->Nat->Int) (O:Nat->Nat->Rat):Prop where
 gj:GjAt n B rows m c ld L R O (inF F t m)
 len:(pvs ld c).length=t
 lo:∀k p,(pvs ld c)[k]?=some p->∀q,F k q=O p q
 le:t<=m
def iZ {α:Type} (F:Nat->α) (a b:Nat):Nat->α:=λi=>if i=a then F b else if i=b then F a else F i
def Ra (x:Nat->Rat) (c:Nat):Nat->Rat:=λq=>1 / x c*x q
def Pk (F:Nat->Nat->Rat) (t:Nat) (f:Nat->Rat):Nat->Nat->Rat:=λi=>if i=t then f else F i
def gQ (F:Nat->Nat->Rat) (pv:Nat->Rat) (c t k:Nat):Nat->Nat->Rat:=λi=>if i<k/\i≠t then Wc pv c (F i)else F i
section
variable {n B m c t:Nat} {rows:Nat->Nat->Int} {F:Nat->Nat->Rat} {ld:Nat->Bool} {L:Nat->Nat->Rat} {R:Nat->Nat->Int} {O:Nat->Nat->Rat}
theorem GridAt.start (hB:1<=B) (hF:∀i q,F i q=(rows i q:Rat)):GridAt n B rows m 0 0 F (λ_=>false) unitQ unitZ (λ_ _=>0) where
 gj:=(GjAt.start hB).same_rest (λa ⟨i,_,I,e⟩=>⟨_,⟨i,I,λ_=>rfl⟩,λq=>by rw[e,hF]⟩) (λa ⟨i,J,e⟩=>⟨F i,⟨i,Nat.zero_le _,J,λ_=>rfl⟩,λq=>by rw[e,hF]⟩)
 len:=rfl
 lo:=λk p h=>by simp[pvs]at h
 le:=Nat.zero_le _
theorem GridAt.skip (h:GridAt n B rows m c t F ld L R O) (U:c<n) (I:∀i,t<=i->i<m->F i c=0):GridAt n B rows m (c+1) t F ld L R O:=by
 have e:pvs ld (c+1)=pvs ld c:=by rw[Pm,if_neg (λV=>by have:=h.gj.lt c V;omega)]
 exact⟨h.gj.skip U (λa ⟨i,J,M,e⟩=>by rw[e];exact I i J M),by rw[e];exact h.len,by rw[e];exact h.lo,h.le⟩
theorem GridAt.zero (h:GridAt n B rows m c t F ld L R O) {i:Nat} (I:t<=i) (J:i<m) (q:Nat) (hq:q<c):F i q=0:=(h.gj.rest (F i) ⟨i,I,J,λ_=>rfl⟩).1 q hq
theorem GridAt.size (h:GridAt n B rows m c t F ld L R O) (hB:1<=B) (M:∀i q,(rows i q).natAbs<=B) (J:∀i q,n<=q->rows i q=0) {i:Nat} (U:i<m) (q:Nat):hq (F i q)<=top n B:=by
 by_cases hit:i<t
 ·have I:i<(pvs ld c).length:=by rw[h.len];exact hit
  have e:=List.getElem?_eq_getElem I;rw[h.lo i _ e];exact h.gj.out_size hB J (Sz.1 (List.getElem_mem I)).2 q
 ·exact h.gj.rest_size M ⟨i,by omega,U,λ_=>rfl⟩ q
theorem GridAt.pivot (h:GridAt n B rows m c t F ld L R O) (hb:∀i q,(rows i q).natAbs<=B) (hc:c<n) {s:Nat} (hs:t<=s) (Y:s<m) (h0:F s c≠0):
  ∃ld' L' R' O',GridAt n B rows m (c+1) (t+1) (gQ (Pk (iZ F t s) t (Ra (F s) c)) (Ra (F s) c) c t m) ld' L' R' O'/\pvs ld' (c+1)=pvs ld c++[c]:=by
 obtain⟨U,M⟩:∃U,U=gQ (Pk (iZ F t s) t (Ra (F s) c)) (Ra (F s) c) c t m:=⟨_,rfl⟩
 have k1:∀i,i<m->i≠t->i≠s->U i=Wc (Ra (F s) c) c (F i):=λi Z I h3=>by
  rw[M,gQ,if_pos ⟨Z,I⟩,Pk,if_neg I,iZ,if_neg I,if_neg h3]
 have k2:s≠t->U s=Wc (Ra (F s) c) c (F t):=λI=>by
  rw[M,gQ,if_pos ⟨Y,I⟩,Pk,if_neg I,iZ,if_neg I,if_pos rfl]
 have k3:U t=Ra (F s) c:=by rw[M,gQ,if_neg (λh=>h.2 rfl),Pk,if_pos rfl]
 have aN:∀j,j<c->(ld j||decide (j=c))=ld j:=λj hj=>by rw[decide_eq_false (by omega),Bool.or_false]
 rw[<-M]
 obtain⟨L',R',hg⟩:=h.gj.pivot hb hc (r:=F s) ⟨s,hs,Y,λ_=>rfl⟩ h0 (A':=inF U (t+1) m) (O':=λp=>if p=c then Ra (F s) c else Wc (Ra (F s) c) c (O p)) (ld':=λj=>ld j||decide (j=c)) (λ_=>rfl)
  (λa' ⟨i,Z,I,e⟩=>by
   by_cases his:i=s
   ·subst his
    exact⟨F t,⟨t,mG _,by omega,λ_=>rfl⟩,λq=>by rw[e,k2 (by omega),Wc,Ra]⟩
   ·exact⟨F i,⟨i,by omega,I,λ_=>rfl⟩,λq=>by rw[e,k1 i I (by omega) his,Wc,Ra]⟩)
  (λa ⟨i,Z,I,e⟩=>by
   by_cases his:i=s
   ·subst his;exact .inl e
   ·right
    by_cases hit:i=t
    ·exact⟨U s,⟨s,by omega,Y,λ_=>rfl⟩,λq=>by rw[k2 (by omega),Wc,Ra,e,e,hit]⟩
    ·exact⟨U i,⟨i,by omega,I,λ_=>rfl⟩,λq=>by rw[k1 i I hit his,Wc,Ra,e,e]⟩)
  (λq=>by simp[Ra]) (λp hp q=>by
   have:p≠c:=by have:=h.gj.lt p hp;omega
   simp only[if_neg this];rw[Wc,Ra])
 have V:pvs (λj=>ld j||decide (j=c)) (c+1)=pvs ld c++[c]:=by
  rw[Pm,if_pos (by simp),Uq aN]
 refine⟨_,L',R',_,⟨hg,by rw[V,List.length_append,h.len];rfl,λk p J q=>?_,by omega⟩,V⟩;rw[V]at J;by_cases hkt:k<t
 ·rw[List.getElem?_append_left (by rw[h.len];exact hkt)]at J
  have:p≠c:=by have:=(Sz.1 (List.mem_of_getElem? J)).1;omega
  rw[k1 k (by omega) (by omega) (by omega)];simp only[if_neg this];rw[Wc,Wc,h.lo k p J,h.lo k p J]
 ·rw[List.getElem?_append_right (by rw[h.len];omega),h.len]at J
  have aX:k - t=0:=by
   rcases Nat.eq_zero_or_pos (k - t)with Z|Z
   ·exact Z
   ·rw[List.getElem?_eq_none (by rw[List.length_singleton];omega)]at J;cases J
  rw[aX]at J;injection J with J
  obtain rfl:k=t:=by omega
  rw[k3,<-J];simp
end
end Eli
open Eli
structure GM (F:Nat->Nat->Rat) (m C:Nat) (w:World) (G:Nat) (gs:Nat->Nat) (B:Nat):Prop where
 stk:Stk SliceV w G
 free:∀i,w.frozen? ⟨G,i,none⟩=false
 hB:B<=G
 at_:∀i,i<m->w.cell? ⟨G,i,none⟩=some (.slice (some ⟨gs i,0,none⟩) C C)
 row:∀i,i<m->QRow (λq=>IsQ (F i q)) w (gs i) C C
 ge:∀i,i<m->B<=gs i
 ne:∀i,i<m->gs i≠G
 inj:∀i j,i<m->j<m->gs i=gs j->i=j
section
variable {F:Nat->Nat->Rat} {m C:Nat} {w:World} {G:Nat} {gs:Nat->Nat} {B:Nat}
theorem GM.keep {w':World} (h:GM F m C w G gs B) (I:Below w.heap.size w w'):GM F m C w' G gs B:=
 ⟨h.stk.next I,λi=>(World.frozen?_of_block (a:=⟨G,i,none⟩) (I.block G h.stk.1)).trans (h.free i),h.hB,λi J=>cell_next I (h.at_ i J),λi J=>(h.row i J).keep (λ_=>IsQ.solid _) I,h.ge,h.ne,h.inj⟩
theorem GM.congr {I:Nat->Nat->Rat} (h:GM F m C w G gs B) (e:∀i q,i<m->q<C->I i q=F i q):GM I m C w G gs B:=
 ⟨h.stk,h.free,h.hB,h.at_,λi J=>(h.row i J).congr (λq hq=>by rw[e i q J hq]),h.ge,h.ne,h.inj⟩
theorem GM.elem (h:GM F m C w G gs B) {i q:Nat} (I:i<m) (hq:q<C):QE (IsQ (F i q)) w (gs i) (q*4):=(h.row i I).val q hq
theorem GM.put {w':World} (h:GM F m C w G gs B) {i:Nat} (V:i<m) {f:Nat->Rat} (hr:QRow (λq=>IsQ (f q)) w' (gs i) C C) (hg:w.grownBy w' (some (gs i))) (M:I32 w w'):GM (Pk F i f) m C w' G gs B:=by
 have U:(some G:Option Nat)≠some (gs i):=λe=>h.ne i V (by injection e with e;exact e.symm)
 have I:w'.heap[G]?=w.heap[G]?:=hg.block G h.stk.1 U;refine⟨⟨mI h.stk.1 hg.size,λk v Z=>h.stk.2 k v ((World.cell?_of_block (a:=⟨G,k,none⟩) I).symm.trans Z)⟩,λk=>(World.frozen?_of_block (a:=⟨G,k,none⟩) I).trans (h.free k),h.hB,λk J=>hg.cell (h.at_ k J) U,λk J=>?_,h.ge,h.ne,h.inj⟩;by_cases e:k=i
 ·subst e
  simp only[Pk,if_pos];exact hr
 ·simp only[Pk,if_neg e]
  exact(h.row k J).i32 (λ_=>IsQ.solid _) M hg (λY=>e (h.inj k i J V Y))
theorem GM.more (h:GM F m C w G gs B) {g:Nat} (_hs:(w.cell? ⟨G,m,none⟩).isSome=true) (hr:QRow (λq=>IsQ (F m q)) w g C C) (hg:B<=g) (U:g≠G) (M:∀i,i<m->gs i≠g) (Y:w.cell? ⟨G,m,none⟩=some (.slice (some ⟨g,0,none⟩) C C)):
  GM F (m+1) C w G (λi=>if i=m then g else gs i) B:=by
 have J:∀i,i<m+1->i≠m->i<m:=λi Z h2=>by omega
 refine⟨h.stk,h.free,h.hB,λi I=>?_,λi I=>?_,λi I=>?_,λi I=>?_,λi j I V e=>?_⟩
 ·by_cases e:i=m
  ·rw[if_pos e,e];exact Y
  ·rw[if_neg e];exact h.at_ i (J i I e)
 ·by_cases e:i=m
  ·rw[if_pos e,e];exact hr
  ·rw[if_neg e];exact h.row i (J i I e)
 ·by_cases e:i=m
  ·rw[if_pos e];exact hg
  ·rw[if_neg e];exact h.ge i (J i I e)
 ·by_cases e:i=m
  ·rw[if_pos e];exact U
  ·rw[if_neg e];exact h.ne i (J i I e)
 ·by_cases e1:i=m
  ·by_cases e2:j=m
   ·omega
   ·rw[if_pos e1,if_neg e2]at e
    exact absurd e.symm (M j (J j V e2))
  ·by_cases e2:j=m
   ·rw[if_neg e1,if_pos e2]at e
    exact absurd e (M i (J i I e1))
   ·rw[if_neg e1,if_neg e2]at e
    exact h.inj i j (J i I e1) (J j V e2) e
theorem GM.but {w':World} {R:Nat} (h:GM F m C w G gs B) (U:I32 w w') (hg:w.grownBy w' (some R)) (Y:G≠R) (V:∀i,i<m->gs i≠R):GM F m C w' G gs B:=by
 have I:(some G:Option Nat)≠some R:=λe=>Y (by injection e)
 have J:w'.heap[G]?=w.heap[G]?:=hg.block G h.stk.1 I;exact⟨⟨mI h.stk.1 hg.size,λk v Z=>h.stk.2 k v ((World.cell?_of_block (a:=⟨G,k,none⟩) J).symm.trans Z)⟩,λk=>(World.frozen?_of_block (a:=⟨G,k,none⟩) J).trans (h.free k),h.hB,λk M=>hg.cell (h.at_ k M) I,λk M=>(h.row k M).i32 (λ_=>IsQ.solid _) U hg (V k M),h.ge,h.ne,h.inj⟩
end
section
variable {P:Program} {md:Region.Mode} {ops:Array Oper} {Q:Exit->Act->World->Prop} {S:World->Prop} {X:List Nat}
def Bu (ops:Array Oper) (X:List Nat) (listed:Array Bool):Bool:=(List.range ops.size).all λk=>listed.getD k true||X.contains k
theorem Kd {I:Array Bool} {i:Nat} (J:X.contains i=true):Bu ops X (I.setIfInBounds i true)=Bu ops X I:=by
 unfold Bu;congr 1;funext k;by_cases e:k=i
 ·subst e;rw[J,Bool.or_true,Bool.or_true]
 ·rw[getD_set_ne true (λh=>e h.symm)]
theorem L9 {I:Array Bool} {k:Nat} (O:k<ops.size) (M:X.contains k=false) (h:I.getD k true=false):Bu ops X I=false:=by
 cases e:Bu ops X I with
 | false=>rfl
 | true=>
  rw[Bu,List.all_eq_true]at e;have J:=e k (List.mem_range.2 O);rw[h,M]at J;cases J
def Y8 (md:Region.Mode) (ops:Array Oper) (X:List Nat) (listed:Array Bool) (i:Nat):Bool:=
 (List.range ops.size).any λk=>k != i && !(listed.getD k true) && !X.contains k&&match ops[k]? with
  | some o=>o.after.any λe=>Region.binds md e&&e.on==i
  | none=>false
def wpX (P:Program) (md:Region.Mode) (ops:Array Oper) (Q:Exit->Act->World->Prop) (S:World->Prop) (X:List Nat):Nat->Array Bool->Act->World->Prop
 | 0,listed,a,w=>Region.ready md ops listed=[]/\Q .normal a w
 | n+1,listed,a,w=>(Region.ready md ops listed=[]->Q .normal a w) /\
  ∀i∈Region.ready md ops listed,wpOp P ops Q i (λa' w'=>(Bu ops X (listed.setIfInBounds i true)=false->S w')/\wpX P md ops Q S X n (listed.setIfInBounds i true) a' w') a w
theorem wpX.any:∀(n:Nat) (I:Array Bool) (a:Act) (w:World),wpX P md ops Q S X n I a w->wpAny P md ops Q n I a w
 | 0,_,_,_,h=>h
 | n+1,_,_,_,h=>⟨h.1,λi O=>wpOp_mono (λJ w' M=>wpX.any n _ J w' M.2) (h.2 i O)⟩
theorem wpX.first {T:World->Prop} {i:Nat} {oi:Oper} {v:Value} (hi:ops[i]?=some oi)
  (Y:∀(j:Nat) (o:Oper) cs b,ops[j]?=some o->o.op≠.select cs b) (hQ:∀c a w,Q (.panic c) (a.put oi.dst v) w->Q (.panic c) a w) (I:Array Bool->Prop)
  (hI:∀l j,I l->j≠i->j∈Region.ready md ops l->I (l.setIfInBounds j true)) (hF:∀l,I l->(Bu ops X (l.setIfInBounds i true)=false->∀w,S w->T w)/\(Bu ops X l=false->Bu ops X (l.setIfInBounds i true)=false)/\(Bu ops X l=true->∀w,T w)):
  ∀(n:Nat) (J:Array Bool) (a:Act) (w:World),I J ->
   (∀j oj,ops[j]?=some oj->j≠i->J.getD j true=false->(∀e∈oj.after,Region.binds md e=true->e.on≠i)->oi.apart ops oj=true) ->
   i∈Region.ready md ops J->YieldsIf P ops T oi v a->(Bu ops X J=false->S w) ->
   wpX P md ops Q S X n (J.setIfInBounds i true) (a.put oi.dst v) w->wpX P md ops Q S X (n+1) J a w:=by
 have bC:∀l w,I l->(Bu ops X l=false->S w)->T w:=λl w hl h=>by
  cases e:Bu ops X l with
  | true=>exact(hF l hl).2.2 e w
  | false=>exact(hF l hl).1 ((hF l hl).2.1 e) w (h e)
 have bB:∀l w,I l->(Bu ops X l=false->S w)->Bu ops X (l.setIfInBounds i true)=false->S w:=λl w hl h O=>by
  cases e:Bu ops X l with
  | false=>exact h e
  | true=>
   rw[Bu,List.all_eq_true]at e;unfold Bu at O;rw[List.all_eq_false]at O;obtain⟨k,hk,V⟩:=O;have h4:=e k hk;exfalso;apply V;by_cases hki:k=i
   ·subst hki
    rcases Nat.lt_or_ge k l.size with h5|h5
    ·simp[h5]
    ·simp[h5]
   ·rw[getD_set_ne true (λh=>hki h.symm)];exact h4
 intro n;induction n with
 | zero=>
  intro J a w M _ hr hy hS H;refine⟨(λh=>by rw[h]at hr;cases hr),λj hj=>?_⟩;by_cases hji:j=i
  ·subst hji;exact hy.wpOp hi (bC _ _ M hS) ⟨bB _ _ M hS,H⟩
  ·have h1:=ready_mono hj hji
   rw[H.1]at h1;cases h1
 | succ n ih=>
  intro J a w M U hr hy hS H;refine⟨(λh=>by rw[h]at hr;cases hr),λj hj=>?_⟩;by_cases hji:j=i
  ·subst hji;exact hy.wpOp hi (bC _ _ M hS) ⟨bB _ _ M hS,H⟩
  have h1:=H.2 j (ready_mono hj hji);obtain⟨bH,oj,Z,bE⟩:=mem_ready.1 hj
  have cG:J.getD i false=false:=by
   have h0:=(mem_ready.1 hr).1;rcases Nat.lt_or_ge i J.size with O|O
   ·simp[O]at h0 ⊢;exact h0
   ·simp[Array.getElem?_eq_none O]
  have cT:∀e∈oj.after,Region.binds md e=true->e.on≠i:=λe he hb O=>by
   have V:=bE e he hb;rw[O,cG]at V;cases V
  have O:=wpOp_putIf Z (U j oj Z hji bH cT) (λcs b=>Y i oi cs b hi) (λcs b=>Y j oj cs b Z) hQ hy h1;refine wpOp_mono (λa' w' V=>?_) O;have aN:=hI J j M hji hj;have bA:Bu ops X (J.setIfInBounds j true)=false->S w':=λe=>V.2.1 (by rw[Array.setIfInBounds_comm _ _ (Ne.symm hji)];exact(hF _ aN).2.1 e)
  refine⟨bA,ih _ a' w' aN (λq oq hq cV bY cX=>U q oq hq cV ?_ cX) (ready_mono hr (Ne.symm hji)) V.1 bA ?_⟩
  ·by_cases hjq:j=q
   ·subst hjq;exact bH
   ·rw[getD_set_ne true hjq]at bY;exact bY
  ·rw[Array.setIfInBounds_comm _ _ hji]
   exact V.2.2
theorem Rq {I:Array Bool} {i:Nat} (h:Y8 md ops X I i=true):∃k J,ops[k]?=some J/\k≠i/\I.getD k true=false/\X.contains k=false/\∃e∈J.after,Region.binds md e=true/\e.on=i:=by
 rw[Y8,List.any_eq_true]at h;obtain⟨k,_,h⟩:=h;cases hk:ops[k]? with
 | none=>rw[hk]at h;simp at h
 | some o=>
  rw[hk]at h;simp only[Bool.and_eq_true,bne_iff_ne,ne_eq,Bool.not_eq_true',beq_iff_eq,Array.any_eq_true']at h;obtain⟨⟨⟨O,U⟩,M⟩,e,V,Y,Z⟩:=h;exact⟨k,o,hk,O,U,M,e,V,Y,Z⟩
theorem iW (X:List Nat) {id:Nat} {a:Act} {w:World} (S:World->Prop) (I:∀W,Below w.heap.size w W->S W) (h:Hd (∀W,Below w.heap.size w W->S W)->S w.drew->wpX P .any ops Q S X ops.size (Array.replicate ops.size false) a w.drew) (J:P.follows .mixedOrders=true:=by kernel_rfl):(Code.region id ops true).wp P Q a w:=
 wp_region_any J (wpX.any _ _ _ _ (h (Kh I) (I _ (Below.refl _ w).drew)))
theorem De (i:Nat) {V:Oper} {v:Value} {n d:Nat} {I:Array Bool} {a a':Act} {w:World} (h:wpX P md ops Q S X n (I.setIfInBounds i true) a' w)
  (hi:ops[i]?=some V:=by rfl) (hS:S w:=by assumption) (hw:Region.wanted V (yielded ops a.tmps)=true:=by rfl)
  (hy:∀w,S w->(execOp a.eval V).run P w=.ok (.value v) w:=by intro w aD;(try dsimp only at aD);go_simp;(try with_reducible rfl))
  (hd:V.dst=some d:=by rfl) (ha:a.put (some d) v=a':=by(try simp only[Act.put,List.setIfInBounds_toArray,List.set_cons_zero,List.set_cons_succ]);rfl)
  (hs:Region.noSelect ops=true:=by kernel_rfl) (hf:Region.free md ops I i=true:=by kernel_rfl) (hr:(Region.ready md ops I).contains i=true:=by kernel_rfl) (hk:Y8 md ops X I i=true:=by kernel_rfl)
  (hQ:∀c a w,Q (.panic c) (a.put V.dst v) w->Q (.panic c) a w:=by exact λ_ _ _ h=>h):wpX P md ops Q S X (n+1) I a w:=by
 subst ha;rw[<-hd]at h;obtain⟨k,ok,Z,h2,h3,h0,e0,aN,aK,bB⟩:=Rq hk;have U:k<ops.size:=(Array.getElem?_eq_some_iff.1 Z).1;refine wpX.first (T:=S) hi (Region.noSelect_spec hs) hQ (λl=>l.getD k true=false/\l.getD i false=false) (λl j M aX hj=>?_) (λl M=>?_) n I a w ⟨h3,?_⟩ (Region.free_spec hi hf) (by simpa using hr) (.inl ⟨hw,hy⟩) (λ_=>hS) h
 ·obtain⟨_,oj,bC,O⟩:=mem_ready.1 hj
  refine⟨?_,?_⟩
  ·have bA:j≠k:=λY=>by
    subst Y;rw[bC]at Z;cases Z;have J:=O e0 aN aK;rw[bB,M.2]at J;cases J
   rw[getD_set_ne true bA];exact M.1
  ·rw[getD_set_ne false aX];exact M.2
 ·have hn:Bu ops X l=false:=L9 U h0 M.1
  exact⟨λ_ w h=>h,λ_=>L9 U h0 (by rw[getD_set_ne true h2.symm];exact M.1),λh=>by rw[hn]at h;cases h⟩
 ·have bE:i∈Region.ready md ops I:=by simpa using hr
  have Y:=(mem_ready.1 bE).1;rcases Nat.lt_or_ge i I.size with J|J
  ·simp[J]at Y ⊢;exact Y
  ·simp[Array.getElem?_eq_none J]
theorem kL (i:Nat) {J:Oper} {v:Value} {n d:Nat} {I:Array Bool} {a M:Act} {w:World} (h:wpX P md ops Q S X n (I.setIfInBounds i true) M w)
  (O:ops[i]?=some J:=by rfl) (V:S w:=by assumption) (hw:Region.wanted J (yielded ops a.tmps)=true:=by rfl)
  (hy:∀w,(execOp a.eval J).run P w=.ok (.value v) w:=by intro w;go_simp;(try with_reducible rfl))
  (hd:J.dst=some d:=by rfl) (Z:a.put (some d) v=M:=by(try simp only[Act.put,List.setIfInBounds_toArray,List.set_cons_zero,List.set_cons_succ]);rfl)
  (hs:Region.noSelect ops=true:=by kernel_rfl) (hf:Region.free md ops I i=true:=by kernel_rfl) (hr:(Region.ready md ops I).contains i=true:=by kernel_rfl) (Y:X.contains i=true:=by kernel_rfl)
  (U:∀c a w,Q (.panic c) (a.put J.dst v) w->Q (.panic c) a w:=by exact λ_ _ _ h=>h):wpX P md ops Q S X (n+1) I a w:=by
 subst Z;rw[<-hd]at h;exact wpX.first (T:=λ_=>True) O (Region.noSelect_spec hs) U (λ_=>True) (λ_ _ _ _ _=>trivial) (λl _=>⟨λ_ _ _=>trivial,λh=>by rw[Kd Y];exact h,λ_ _=>trivial⟩) n I a w trivial (Region.free_spec O hf) (by simpa using hr) (.inl ⟨hw,λw _=>hy w⟩) (λ_=>V) h
theorem iY (i:Nat) {o:Oper} {n:Nat} {I:Array Bool} {a:Act} {w:World}
  (V:ops[i]?=some o) (h:∀J:Act->World->Prop,Shut (∀a w,S w->(S w->wpX P md ops Q S X n (I.setIfInBounds i true) a w)->J a w)->if Region.wanted o (yielded ops a.tmps)=true then Oper.wp P o a w J Q else J (a.put o.dst undef) w)
  (hr:Region.ready md ops I=[i]:=by kernel_rfl):wpX P md ops Q S X (n+1) I a w:=by
 refine⟨(λe=>by rw[hr]at e;cases e),λj O=>?_⟩;rw[hr,List.mem_singleton]at O;subst O;refine wpOp_step V λJ hK=>?_
 exact h J λa w M U=>hK a w ⟨λ_=>M,U M⟩
theorem iN (i j:Nat) {U V:Oper} {n:Nat} {I:Array Bool} {a:Act} {w:World} (Z:ops[i]?=some U) (h:ops[j]?=some V)
  (hi:∀J:Act->World->Prop,Shut (∀a w,S w->(S w->wpX P md ops Q S X n (I.setIfInBounds i true) a w)->J a w)->if Region.wanted U (yielded ops a.tmps)=true then Oper.wp P U a w J Q else J (a.put U.dst undef) w)
  (hj:∀J:Act->World->Prop,Shut (∀a w,S w->(S w->wpX P md ops Q S X n (I.setIfInBounds j true) a w)->J a w)->if Region.wanted V (yielded ops a.tmps)=true then Oper.wp P V a w J Q else J (a.put V.dst undef) w)
  (hr:Region.ready md ops I=[i,j]:=by kernel_rfl):wpX P md ops Q S X (n+1) I a w:=by
 refine⟨(λe=>by rw[hr]at e;cases e),λk O=>?_⟩;rw[hr]at O;have O:k=i∨k=j:=by simpa using O
 rcases O with rfl|rfl
 ·refine wpOp_step Z λJ hK=>?_
  exact hi J λa w M Y=>hK a w ⟨λ_=>M,Y M⟩
 ·refine wpOp_step h λJ hK=>?_
  exact hj J λa w M Y=>hK a w ⟨λ_=>M,Y M⟩
theorem kI (i:Nat) {o:Oper} {n:Nat} {I:Array Bool} {a:Act} {w:World}
  (U:ops[i]?=some o) (h:∀J:Act->World->Prop,Shut (∀a w,Q .normal a w->J a w)->if Region.wanted o (yielded ops a.tmps)=true then Oper.wp P o a w J Q else J (a.put o.dst undef) w)
  (hr:Region.ready md ops I=[i]:=by kernel_rfl)
  (hn:Region.ready md ops (I.setIfInBounds i true)=[]:=by kernel_rfl) (O:Bu ops X (I.setIfInBounds i true)=true:=by kernel_rfl):wpX P md ops Q S X (n+1) I a w:=by
 refine⟨(λe=>by rw[hr]at e;cases e),λj M=>?_⟩;rw[hr,List.mem_singleton]at M;subst M;refine wpOp_step U λJ hK=>?_
 refine h J λa w hq=>hK a w ⟨(λe=>by rw[O]at e;cases e),?_⟩
 cases n with
 | zero=>exact⟨hn,hq⟩
 | succ n=>exact⟨λ_=>hq,λj M=>by rw[hn]at M;cases M⟩
theorem jA (i:Nat) {J:Oper} {v:Value} {n d:Nat} {I:Array Bool} {a M:Act} {w:World} (h:wpX P md ops Q S X n (I.setIfInBounds i true) M w)
  (O:ops[i]?=some J:=by rfl) (hl:Bu ops X I=true:=by kernel_rfl) (hw:Region.wanted J (yielded ops a.tmps)=true:=by rfl)
  (hy:∀w,(execOp a.eval J).run P w=.ok (.value v) w:=by intro w;go_simp;(try with_reducible rfl))
  (Z:J.dst=some d:=by rfl) (Y:a.put (some d) v=M:=by(try simp only[Act.put,List.setIfInBounds_toArray,List.set_cons_zero,List.set_cons_succ]);rfl)
  (hs:Region.noSelect ops=true:=by kernel_rfl) (hf:Region.free md ops I i=true:=by kernel_rfl) (hr:(Region.ready md ops I).contains i=true:=by kernel_rfl) (V:X.contains i=true:=by kernel_rfl)
  (U:∀c a w,Q (.panic c) (a.put J.dst v) w->Q (.panic c) a w:=by exact λ_ _ _ h=>h):wpX P md ops Q S X (n+1) I a w:=by
 subst Y;rw[<-Z]at h;exact wpX.first (T:=λ_=>True) O (Region.noSelect_spec hs) U (λ_=>True) (λ_ _ _ _ _=>trivial) (λl _=>⟨λ_ _ _=>trivial,λh=>by rw[Kd V];exact h,λ_ _=>trivial⟩) n I a w trivial (Region.free_spec O hf) (by simpa using hr) (.inl ⟨hw,λw _=>hy w⟩) (λe=>by rw[hl]at e;cases e) h
theorem iX (i:Nat) {o:Oper} {n:Nat} {I:Array Bool} {a:Act} {w:World}
  (V:ops[i]?=some o) (h:∀J:Act->World->Prop,Shut (∀a w,wpX P md ops Q S X n (I.setIfInBounds i true) a w->J a w)->if Region.wanted o (yielded ops a.tmps)=true then Oper.wp P o a w J Q else J (a.put o.dst undef) w)
  (hr:Region.ready md ops I=[i]:=by kernel_rfl) (U:Bu ops X (I.setIfInBounds i true)=true:=by kernel_rfl):wpX P md ops Q S X (n+1) I a w:=by
 refine⟨(λe=>by rw[hr]at e;cases e),λj M=>?_⟩;rw[hr,List.mem_singleton]at M;subst M;refine wpOp_step V λJ hK=>?_
 exact h J λa w O=>hK a w ⟨(λe=>by rw[U]at e;cases e),O⟩
theorem iT {n:Nat} {I:Array Bool} {a:Act} {w:World} (h:Q .normal a w) (hr:Region.ready md ops I=[]:=by kernel_rfl):wpX P md ops Q S X n I a w:=by
 cases n with
 | zero=>exact⟨hr,h⟩
 | succ n=>exact⟨λ_=>h,λj J=>by rw[hr]at J;cases J⟩
end
end Go.Proofs.YtenlbhlllgppmaaGreatDoor
namespace Go.Proofs.YtenlbhlllgppmaaGreatDoor
open Tryz
open Go.RowKit Eli
theorem Lt (s:Bool) (p:Option Addr) (n c:Nat) (t:Bool) (q:Option Addr) (m d:Nat) (x:Rat) (w:World) (h:Qs w s p n c t q m d x) (Z:hq x<=1000000000):
  Calls prog 121 #[.agg #[.bool s,.slice p n c,.bool t,.slice q m d]] w λe w'=>e=.returned (.bool (!decide (x=0)))/\Below w.heap.size w w':=by
 have V:=Kh h;clear h;go_enter func121,ntmps121
 go_wp2_with fail
 obtain⟨w0,O,Y,I⟩:=bx1 w #[.bool s,.slice p n c,.bool t,.slice q m d] 86;rw[O];refine(E8 s p n c t q m d x w0 (V.1.keep I) Z).mono ?_;rintro e w1 ⟨⟨sg,rfl,J⟩,M⟩;have U:=Kh (I.trans (M.mono I.size))
 have hv:(sg != 0) = !decide (x=0):=by
  by_cases e:x=0
  ·rw[decide_eq_true e,J.2 e];rfl
  ·rw[decide_eq_false e,Bool.not_false,bne_iff_ne];exact λh=>e (J.1 h)
 clear Y I O M J;go_wp2;go_ret;exact⟨rfl,U.1⟩
def divQ (F:Nat->Rat) (x:Rat) (k:Nat):Nat->FP:=λj=>IsQ (if j<k then 1 / x*F j else F j)
theorem divQ.done {F:Nat->Rat} {x:Rat} {k:Nat} {w:World} {g N:Nat} (h:QRow (divQ F x k) w g N N) (I:F k=0):QRow (divQ F x (k+1)) w g N N:=
 QRow.congr h (λj _=>by
  unfold divQ;by_cases hj:j<k
  ·rw[if_pos hj,if_pos (by omega)]
  ·rw[if_neg hj]
   by_cases hj2:j=k
   ·rw[if_pos (by omega),hj2,I,Rat.mul_zero]
   ·rw[if_neg (by omega)])
theorem divQ.put {F:Nat->Rat} {x:Rat} {k:Nat} {w:World} {g N:Nat} (h:QRow (divQ F x k) w g N N) (J:k<N) {s:Bool} {p:Option Addr} {n c:Nat} {t:Bool} {q:Option Addr} {m d:Nat} (hq:Qs w s p n c t q m d (F k / x)):
  QRow (divQ F x (k+1)) ((((w.setCell ⟨g,k*4,none⟩ (.bool s)).setCell ⟨g,k*4+1,none⟩ (.slice p n c)).setCell ⟨g,k*4+2,none⟩ (.bool t)).setCell ⟨g,k*4+3,none⟩ (.slice q m d)) g N N:=
 QRow.set (λ_=>IsQ.solid _) h k J _ (IsQ.solid _) (λi I M=>⟨I,by
  unfold divQ;by_cases hj:i<k
  ·rw[if_pos hj,if_pos (by omega)]
  ·rw[if_neg hj,if_neg (by omega)]⟩) (show IsQ (if k<k+1 then 1 / x*F k else F k) w s p n c t q m d by rw[if_pos (mJ k),show 1 / x*F k=F k / x by grind];exact hq)
theorem divQ.elem {F:Nat->Rat} {x:Rat} {k:Nat} {w:World} {g N:Nat} (h:QRow (divQ F x k) w g N N) (J:k<N):QE (IsQ (F k)) w g (k*4):=by
 have I:=QRow.val h k J;unfold divQ at I;rw[if_neg (Nat.lt_irrefl k)]at I;exact I
theorem GM.base {F:Nat->Nat->Rat} {m C:Nat} {w:World} {G:Nat} {gs:Nat->Nat} {B B':Nat} (h:GM F m C w G gs B) (hB:B'<=B):GM F m C w G gs B':=
 ⟨h.stk,h.free,mH hB h.hB,h.at_,h.row,λi I=>mH hB (h.ge i I),h.ne,h.inj⟩
theorem GM.made (F:Nat->Nat->Rat) (C:Nat) (w:World) (R:Nat) (gs:Nat->Nat):GM F 0 C (w.alloc (.cells (madeCells #[.slice none 0 0] R) 30)) w.heap.size gs w.heap.size/\∀i,i<R->((w.alloc (.cells (madeCells #[.slice none 0 0] R) 30)).cell? ⟨w.heap.size,i,none⟩).isSome=true:=by
 have h:=RowTab.made F C w R;exact⟨⟨h.stk,λi=>(Blk.new w 30 (madeCells #[.slice none 0 0] R)).free_ i,mG _,λi I=>absurd I (Nat.not_lt_zero _),λi I=>absurd I (Nat.not_lt_zero _),λi I=>absurd I (Nat.not_lt_zero _),λi I=>absurd I (Nat.not_lt_zero _),λi j I=>absurd I (Nat.not_lt_zero _)⟩,h.has⟩
theorem eO (n:Nat) (h:n<=1000000) (w:World):
  (Instr.makeSlice 118 (.int .i64 (n:Int)) (.int .i64 (n:Int))).run prog w=.ok (.slice (some ⟨w.heap.size,0,none⟩) n n) (w.alloc (.cells (madeCells #[.slice none 0 0] n) 30)):=by
 obtain⟨i,O,I,J,M⟩:=info_parts Hl;have hr:=run_make (P:=prog) w 118 30 i _ underlying118 O I .i64 .i64 n n (by omega) (Int.le_refl _) (by rw[M];omega) (by omega);rw[Int.toNat_natCast,J,Nat.mul_one]at hr;exact hr
theorem I0 (n:Nat) (w:World) (hn:n<=1024):Calls prog 54 #[.int .i64 n] w λe w'=>e=.returned (.bool true)/\Below w.heap.size w w':=by
 have I:(0:Int)<=(n:Int):=by omega
 have J:(n:Int)<=1024:=by omega
 go_enter func54,ntmps54
 go_wp2;go_ret;exact⟨rfl,Below.refl _ _⟩
theorem Mw (R C U:Nat) (pA:Option Addr) (cA:Nat) (w:World) (hR:R<=1024) (hC:C<=1024) (J:R*C=U):Calls prog 69 #[.agg #[.int .i64 R,.int .i64 C,.slice pA U cA]] w λe w'=>e=.returned (.bool true)/\Below w.heap.size w w':=by
 have bC:U<=1048576:=by rw[<-J];exact Nat.mul_le_mul hR hC
 have aX:(R:Int)*(C:Int)=(U:Nat):=by rw[<-J];push_cast;rfl
 clear J;go_enter func69,ntmps69
 go_wp2_with fail
 obtain⟨w0,V,h,M⟩:=bx1 w #[.int .i64 R,.int .i64 C,.slice pA U cA] 32;rw[V];refine(I0 R w0 hR).mono ?_;rintro e w1 ⟨rfl,I⟩;have Y:=h.below_ I h.lt;have x1:=Y.at_ 1 rfl;go_wp2_with fail
 refine(I0 C w1 hC).mono ?_;rintro e w2 ⟨rfl,O⟩;have Z:=Y.below_ O Y.lt;have y0:=Z.at_ 0 rfl;have y1:=Z.at_ 1 rfl;have y2:=Z.at_ 2 rfl;have HB:=Kh (M.trans ((I.trans (O.mono I.size)).mono M.size));clear V h M I O Y Z x1;go_wp2;go_ret;exact⟨rfl,HB.1⟩
theorem gV (p:Option Addr) (n c:Nat):∀u∈[Value.slice p n c],u.oneCell'=true:=by intro u I;simp at I;subst I;rfl
theorem jR (p:Option Addr) (n c:Nat):∀u∈[Value.slice p n c],SliceV u:=by intro u I;simp at I;subst I;exact⟨p,n,c,rfl⟩
theorem jQ:∀u∈(Value.slice none 0 0).cells.toList,SliceV u:=by
 intro u I;simp[Value.cells]at I;exact⟨none,0,0,I⟩
def RowsOwn (F:Nat->Nat->Rat) (k C:Nat) (w:World) (B:Nat) (v:Value):Prop:=
 ∃gs:Nat->Nat,OwnK SliceV w B 30 1 v k ((List.range k).map λi=>Value.slice (some ⟨gs i,0,none⟩) C C)/\∀i,i<k->QRow (λq=>IsQ (F i q)) w (gs i) C C
theorem RowsOwn.keep {F:Nat->Nat->Rat} {k C:Nat} {w w':World} {B:Nat} {v:Value} (h:RowsOwn F k C w B v) (I:Below w.heap.size w w'):RowsOwn F k C w' B v:=by
 obtain⟨gs,J,M⟩:=h;exact⟨gs,J.keep I,λi O=>(M i O).keep (λ_=>IsQ.solid _) I⟩
theorem RowsOwn.nil (F:Nat->Nat->Rat) (C:Nat) (w:World) (B:Nat):RowsOwn F 0 C w B (.slice none 0 0):=⟨λ_=>0,OwnK.nil _ _ _ _ _,λ_ I=>absurd I (Nat.not_lt_zero _)⟩
theorem QRow.not_sv {F:Nat->FP} {w:World} {g C r:Nat} (h:QRow F w g C C) (M:0<C) (O:Stk SliceV w r):g≠r:=λe=>by
 obtain⟨s,p,n,c,t,q,m,d,I,_⟩:=h.val 0 M;rw[e]at I;obtain⟨p',V,U,J⟩:=O.2 _ _ I;cases J
theorem RowsOwn.push {F:Nat->Nat->Rat} {k C:Nat} {W w':World} {B:Nat} {v V:Value} {gs:Nat->Nat} {g:Nat} (Z:0<C) (M:OwnK SliceV W B 30 1 v k ((List.range k).map λi=>Value.slice (some ⟨gs i,0,none⟩) C C))
  (O:∀i,i<k->QRow (λq=>IsQ (F i q)) W (gs i) C C) (hr:QRow (λq=>IsQ (F k q)) W g C C) (Y:OwnK SliceV w' B 30 1 V (k+1) (((List.range k).map λi=>Value.slice (some ⟨gs i,0,none⟩) C C)++[.slice (some ⟨g,0,none⟩) C C])) (hg:W.grownBy w' v.ownBlock):RowsOwn F (k+1) C w' B V:=by
 have I:=I32.grownS M hg;have J:∀i b,QRow (λq=>IsQ (F i q)) W b C C->some b≠v.ownBlock:=λi b h e=>h.not_sv Z (M.2 b e.symm) rfl
 refine⟨λi=>if i<k then gs i else g,?_,λi U=>?_⟩
 ·have e:((List.range (k+1)).map λi=>Value.slice (some ⟨if i<k then gs i else g,0,none⟩) C C)=((List.range k).map λi=>Value.slice (some ⟨gs i,0,none⟩) C C)++[.slice (some ⟨g,0,none⟩) C C]:=by
   rw[List.range_succ,List.map_append,List.map_singleton,if_neg (Nat.lt_irrefl k)];congr 1;exact List.map_congr_left (λi U=>by rw[if_pos (List.mem_range.1 U)])
  rw[e];exact Y
 ·by_cases hlt:i<k
  ·dsimp only
   rw[if_pos hlt];exact(O i hlt).grown (λ_=>IsQ.solid _) I hg (J i _ (O i hlt))
  ·obtain rfl:i=k:=by omega
   dsimp only;rw[if_neg hlt];exact hr.grown (λ_=>IsQ.solid _) I hg (J i _ hr)
def RowsIn (F:Nat->Nat->Rat) (k C:Nat) (w:World) (v:Value):Prop:=∃G c,v=.slice (some ⟨G,0,none⟩) k c/\G<w.heap.size/\∀i,i<k->∃g,w.cell? ⟨G,i,none⟩=some (.slice (some ⟨g,0,none⟩) C C)/\QRow (λq=>IsQ (F i q)) w g C C
theorem RowsIn.keep {F:Nat->Nat->Rat} {k C:Nat} {w w':World} {v:Value} (h:RowsIn F k C w v) (I:Below w.heap.size w w'):RowsIn F k C w' v:=by
 obtain⟨G,c,e,J,O⟩:=h;refine⟨G,c,e,mI J I.size,λi V=>?_⟩;obtain⟨g,M,U⟩:=O i V;exact⟨g,(I.cell (p:=⟨G,i,none⟩) J).trans M,U.keep (λ_=>IsQ.solid _) I⟩
end Go.Proofs.YtenlbhlllgppmaaGreatDoor
namespace Go.Proofs.YtenlbhlllgppmaaGreatDoor
open Tryz
open Go.RowKit
theorem jF (g c n:Nat) (f:Nat->Int) (w:World) (hg:g<w.heap.size) (hc:∀j,j<n->w.cell? ⟨g,j,none⟩=some (.int .i64 (f j))) (hf:∀j,j<n->-2147483648<=f j/\f j<=2147483648) (hn:n<=1000000):
  Calls prog 58 #[.slice (some ⟨g,0,none⟩) n c] w λe w'=>(∃v',e=.returned v'/\OwnQ (λj=>IsQ (f j:Rat)) w' w.heap.size v' n)/\Below w.heap.size w w':=by
 have HN:=Kh (OwnQ.nil (λj=>IsQ (f j:Rat)) w w.heap.size);have R1:=Kh hc;have HF:=Kh hf;clear hc hf;go_enter func58,ntmps58
 go_wp2;go_loopw [3,4] (λv i wr=>∃k:Nat,k<=n/\i=.int .i64 k/\OwnQ (λj=>IsQ (f j:Rat)) wr w.heap.size v k/\Below w.heap.size w wr) (λ_ i _=>n - (intOf i).toNat)
 case atStart=>exact⟨0,Nat.zero_le _,rfl,HN.1,Below.refl _ _⟩
 case round=>
  obtain⟨k,hk,rfl,ho,U⟩:=hrel;have h:=Kh ho;have V:=Kh U;clear ho HN;by_cases hlt:k<n
  ·have a0:wr.cell? ⟨g,k,none⟩=some (.int .i64 (f k)):=(U.cell (p:=⟨g,k,none⟩) hg).trans (R1.1 k hlt)
   have HC:=Kh (kO (f k) wr (HF.1 k hlt).1 (HF.1 k hlt).2);clear U;go_wp2_with fail
   refine HC.1.mono ?_;rintro e w2 ⟨⟨s,p1,i1,c1,t,q1,m,d1,rfl,hq⟩,M⟩;obtain⟨xs,hK,hX⟩:=h.1.keep (λ_=>IsQ.solid _) M;have Z:=Kh hK;have HX:=Kh hX;have HQ:=Kh (show IsQ (f k:Rat) w2 s p1 i1 c1 t q1 m d1 from hq);have J:=bt V M;clear hK hX hq M h V a0 HC;go_wp2_with (at_builtin;refine Bj NotInt rfl (.tmp 11) (.tmp 17) _ 86 rfl underlying30 F1 rfl (by decide) w.heap.size k u3 xs [.bool s,.slice p1 i1 c1,.bool t,.slice q1 m d1] rfl Z.1 rfl rfl (fA _ _ _ _ _ _ _ _) (by omega) (by omega) J.1.size (kF _ _ _ _ _ _ _ _) iK ?_;intro v' w' I O aK;have aD:=Kh (OwnQ.push (W:=_) (λ_=>IsQ.solid _) Z.1 HX.1 HQ.1 I O);have Y:=Kh (Aw J.1 Z.1.1 O (mG _) J.1.size);clear I O aK)
   go_roundw
   case rel=>exact⟨k+1,by omega,by go_num,aD.1,Y.1⟩
   case measure=>simp[intOf];omega
  ·obtain rfl:k=n:=by omega
   clear U;go_wp2;go_ret;exact⟨⟨_,rfl,h.1⟩,V.1⟩
def Ni (n u v s:Nat):Bool:=(Nat.gcd s n==1)&&(decide (s*u % n<u)||(decide (s*u % n=u)&&decide (s*v % n<v)))
theorem W3 {n u v A B:Nat} (M:v<n) (hB:B<n):u*n+v<=A*n+B↔¬(A<u∨A=u/\B<v):=by
 constructor
 ·rintro h (I |⟨rfl,I⟩)
  ·have J:(A+1)*n<=u*n:=Nat.mul_le_mul_right _ I
   rw[Nat.add_mul,Nat.one_mul]at J;omega
  ·omega
 ·intro h
  rcases Nat.lt_trichotomy A u with I|I|I
  ·exact absurd (.inl I) h
  ·subst I
   have:v<=B:=by
    rcases Nat.lt_or_ge B v with J|J
    ·exact absurd (.inr ⟨rfl,J⟩) h
    ·exact J
   omega
  ·have J:(u+1)*n<=A*n:=Nat.mul_le_mul_right _ I
   rw[Nat.add_mul,Nat.one_mul]at J;omega
theorem T9 {n u v:Nat} (hu:u<n) (O:v<n):(∀s,2<=s->s<n->Ni n u v s=false)↔Fj n (u*n+v)=true:=by
 have hn:0<n:=by omega
 have hd:(u*n+v) / n=u:=by rw[Nat.mul_comm,Nat.mul_add_div hn,Nat.div_eq_of_lt O,Nat.add_zero]
 have hm:(u*n+v) % n=v:=by rw[Nat.mul_comm,Nat.mul_add_mod,Nat.mod_eq_of_lt O]
 have Z:∀s,Az n s (u*n+v)=s*u % n*n+s*v % n:=λs=>by unfold Az;rw[hd,hm]
 have hlt:u*n+v<n*n:=by
  have:(u+1)*n<=n*n:=Nat.mul_le_mul_right _ hu;rw[Nat.add_mul,Nat.one_mul]at this;omega
 rw[Cl];constructor
 ·intro h s V Y I
  rcases Nat.eq_or_lt_of_le V with rfl|h4
  ·rw[Ko hlt];exact mG _
  ·rcases Nat.eq_or_lt_of_le Y with rfl|h5
   ·exfalso
    unfold pun at I;simp only[beq_iff_eq,Nat.gcd_self]at I;omega
   ·have M:=h s h4 h5
    unfold Ni at M;unfold pun at I;rw[I,Bool.true_and]at M;rw[Z,W3 O (Nat.mod_lt _ hn)];intro J
    have U:(decide (s*u % n<u)||(decide (s*u % n=u)&&decide (s*v % n<v)))=true:=by
     rcases J with J |⟨J,U⟩
     ·simp[J]
     ·simp[J,U]
    rw[U]at M;cases M
 ·intro h s V Y
  unfold Ni;cases hg:(Nat.gcd s n==1)with
  | false=>rfl
  | true=>
   have I:=h s (by omega) (by omega) hg;rw[Z,W3 O (Nat.mod_lt _ hn)]at I;rw[Bool.true_and];cases hb:(decide (s*u % n<u)||(decide (s*u % n=u)&&decide (s*v % n<v)))with
   | false=>rfl
   | true=>
    exfalso;apply I;simp only[Bool.or_eq_true,Bool.and_eq_true,decide_eq_true_eq]at hb;exact hb
theorem Yb {n k:Nat} (hn:0<n) (I:k<n*n):pts n (k+1)=if E4 n k&&Fj n k then pts n k++[k]else pts n k:=by
 rw[B5 hn (k+1) I,B5 hn k (by omega),List.range_succ,List.filter_append];cases hc:(E4 n k&&Fj n k)with
 | true=>rw[if_pos rfl];simp[hc]
 | false=>rw[if_neg (by decide)];simp[hc]
theorem Ty (n u v:Nat) (w:World) (hu:u<n) (hv:v<n) (hn:n<=1000):
  Calls prog 185 #[.int .i64 n,.int .i64 u,.int .i64 v] w λe w'=>e=.returned (.bool (Fj n (u*n+v)))/\∃m,w'=w.drewN m:=by
 have aD:=Kh (T9 hu hv);go_enter func185,ntmps185
 go_wp2;go_loopw [7] (λx wr=>∃s:Nat,2<=s/\s<=n+2/\x=.int .i64 s/\(∀t,2<=t->t<s->Ni n u v t=false)/\∃m,wr=w.drewN m) (λx _=>n+2 - (intOf x).toNat)
 case atStart=>exact⟨2,mG _,by omega,rfl,λt J Y=>by omega,0,rfl⟩
 case round=>
  obtain⟨s,hs,cD,rfl,hl,m,rfl⟩:=hrel;have HL:=Kh hl;clear hl;by_cases hlt:s<n
  ·have cF:(s:Int)<(n:Int):=by omega
   obtain⟨P,hP⟩:∃x,s*u=x:=⟨_,rfl⟩
   obtain⟨Q,hQ⟩:∃x,s*v=x:=⟨_,rfl⟩
   obtain⟨A,hA⟩:∃x,P % n=x:=⟨_,rfl⟩
   obtain⟨B,hB⟩:∃x,Q % n=x:=⟨_,rfl⟩
   have cA:P<=1000000:=by rw[<-hP];exact Nat.mul_le_mul (by omega:s<=1000) (by omega:u<=1000)
   have cB:Q<=1000000:=by rw[<-hQ];exact Nat.mul_le_mul (by omega:s<=1000) (by omega:v<=1000)
   have e1:(s:Int)*(u:Int)=(P:Nat):=by rw[<-hP];push_cast;rfl
   have e2:(s:Int)*(v:Int)=(Q:Nat):=by rw[<-hQ];push_cast;rfl
   have e3:Int.tmod (P:Int) (n:Int)=(A:Nat):=by rw[Int.tmod_eq_emod_of_nonneg (by omega),<-hA];rfl
   have e4:Int.tmod (Q:Int) (n:Int)=(B:Nat):=by rw[Int.tmod_eq_emod_of_nonneg (by omega),<-hB];rfl
   have e5:((n:Int)==0)=false:=by simp;omega
   have bH:A<n:=by rw[<-hA];exact Nat.mod_lt _ (by omega)
   have bY:B<n:=by rw[<-hB];exact Nat.mod_lt _ (by omega)
   have v1:IntKind.i64.wrap (P:Int)=(P:Nat):=IntWalk.i64_in _ (by omega);have v2:IntKind.i64.wrap (Q:Int)=(Q:Nat):=IntWalk.i64_in _ (by omega);have v3:IntKind.i64.wrap (A:Int)=(A:Nat):=IntWalk.i64_in _ (by omega);have v4:IntKind.i64.wrap (B:Int)=(B:Nat):=IntWalk.i64_in _ (by omega);have I:=Kh (show Ni n u v s=((Nat.gcd s n==1)&&(decide (A<u)||(decide (A=u)&&decide (B<v))))by unfold Ni;rw[hP,hQ,hA,hB])
   have O:=Kh (show Ni n u v s=true->Fj n (u*n+v)=false from λh=>by
    cases hp:Fj n (u*n+v)with
    | false=>rfl
    | true=>have:=aD.1.2 hp s hs hlt;rw[h]at this;cases this)
   have U:=Kh (show Ni n u v s=false->∀t,2<=t->t<s+1->Ni n u v t=false from λh t J Y=>by
    rcases Nat.eq_or_lt_of_le (Nat.lt_succ_iff.1 Y)with rfl|h3
    ·exact h
    ·exact HL.1 t J h3)
   clear hP hQ hA hB;go_wp2_with fail
   refine(Mx s n (w.drewN m) (by omega) (by omega) (by omega) (by omega)).mono ?_;rintro e w1 ⟨rfl,m1,rfl⟩;have V:Int.gcd (s:Int) (n:Int)=Nat.gcd s n:=rfl;rw[V,Ly];by_cases hg:Nat.gcd s n=1
   ·have bC:(((Nat.gcd s n:Nat):Int)==1)=true:=by rw[hg];rfl
    have aK:(Nat.gcd s n==1)=true:=by rw[hg];rfl
    rw[aK,Bool.true_and]at I;clear hg aK V;rcases Nat.lt_trichotomy A u with J|J|J
    ·have Y:(A:Int)<(u:Int):=by omega
     have M:=Kh (O.1 (by rw[I.1];simp[J]));go_wp2;go_ret;exact⟨Ca (by rw[M.1]),_,rfl⟩
    ·have Y:((A:Int)==(u:Int))=true:=by rw[J];simp
     have h3:¬((A:Int)<(u:Int)):=by omega
     by_cases Z:B<v
     ·have h5:(B:Int)<(v:Int):=by omega
      have M:=Kh (O.1 (by rw[I.1];simp[J,Z]));clear J;go_wp2;go_ret;exact⟨Ca (by rw[M.1]),_,rfl⟩
     ·have h5:¬((B:Int)<(v:Int)):=by omega
      have M:=Kh (U.1 (by rw[I.1];simp[J,Z]));clear J;go_wp2;all_goals try(exfalso;omega)
      all_goals go_roundw
      all_goals first
       | exact⟨s+1,by omega,by omega,by go_num,M.1,_,rfl⟩
       |(simp[intOf];omega)
    ·have Y:((A:Int)==(u:Int))=false:=by simp;omega
     have h3:¬((A:Int)<(u:Int)):=by omega
     have M:=Kh (U.1 (by
      rw[I.1];have Z:¬A<u:=by omega
      have h5:¬A=u:=by omega
      simp[Z,h5]))
     go_wp2;go_roundw
     case rel=>exact⟨s+1,by omega,by omega,by go_num,M.1,_,rfl⟩
     case measure=>simp[intOf];omega
   ·have bC:(((Nat.gcd s n:Nat):Int)==1)=false:=by simp;omega
    have M:=Kh (U.1 (by
     rw[I.1];have Z:(Nat.gcd s n==1)=false:=by simpa using hg
     rw[Z];rfl))
    clear hg V;go_wp2;go_roundw
    case rel=>exact⟨s+1,by omega,by omega,by go_num,M.1,_,rfl⟩
    case measure=>simp[intOf];omega
  ·have M:=Kh (show Fj n (u*n+v)=true from aD.1.1 (λt J Y=>HL.1 t J (by omega)))
   go_wp2;go_ret;exact⟨Ca (by rw[M.1]),_,rfl⟩
theorem Zm (n:Nat) (w:World) (I:0<n) (hn:n<=120):
  Calls prog 183 #[.int .i64 n] w λe w'=>e=.returned (.int .i64 0)/\w'=w:=by
 go_enter func183,ntmps183
 go_wp2;all_goals try(exfalso;omega)
 all_goals go_ret
 all_goals exact⟨rfl,rfl⟩
theorem Vn (n:Nat) (w:World) (h0:0<n) (hn:n<=120):
  Calls prog 141 #[.int .i64 n] w λe w'=>(∃v,e=.returned (.tuple #[v,.int .i64 0])/\OwnPt n (pts n (n*n)) w' w.heap.size v)/\Below w.heap.size w w':=by
 have HN:=Kh (OwnPt.nil n w w.heap.size);go_enter func141,ntmps141
 go_wp2_with fail
 refine(Zm n w h0 hn).mono ?_;rintro e w1 ⟨rfl,hw⟩;rw[hw];clear hw;go_wp2_with fail
 go_loopw [5,6] (λo x wr=>∃u:Nat,u<=n/\x=.int .i64 u/\OwnPt n (pts n (u*n)) wr w.heap.size o/\Below w.heap.size w wr) (λ_ x _=>n - (intOf x).toNat)
 case atStart=>exact⟨0,Nat.zero_le _,rfl,by rw[Nat.zero_mul];exact HN.1,Below.refl _ _⟩
 case round=>
  obtain⟨u,hu,rfl,U,hb⟩:=hrel;have bB:=Kh U;have HB:=Kh hb;clear U hb;by_cases hlt:u<n
  ·have gY:(u:Int)<(n:Int):=by omega
   have cB:=Kh (show OwnPt n (pts n (u*n+0)) wr w.heap.size u5 from bB.1);go_wp2_with fail
   obtain⟨w2,rfl⟩:∃w2:World,w2=wr:=⟨_,rfl⟩
   go_loopw [5,7] (λo x wr=>∃v:Nat,v<=n/\x=.int .i64 v/\OwnPt n (pts n (u*n+v)) wr w.heap.size o/\Below w.heap.size w wr) (λ_ x _=>n - (intOf x).toNat)
   case atStart=>exact⟨0,Nat.zero_le _,rfl,cB.1,HB.1⟩
   case round=>
    obtain⟨v,hv,rfl,U,hb⟩:=hrel;obtain⟨w3,rfl⟩:∃w3:World,w3=wr:=⟨_,rfl⟩
    have I:=Kh U;have V:=Kh hb;clear U hb cB bB HB;by_cases hltv:v<n
    ·have hB:(v:Int)<(n:Int):=by omega
     obtain⟨k,hk⟩:∃k,u*n+v=k:=⟨_,rfl⟩
     have cT:k<n*n:=by
      have:(u+1)*n<=n*n:=Nat.mul_le_mul_right _ hlt;rw[Nat.add_mul,Nat.one_mul]at this;omega
     have bE:k / n=u:=by rw[<-hk,Nat.mul_comm,Nat.mul_add_div h0,Nat.div_eq_of_lt hltv,Nat.add_zero]
     have bG:k % n=v:=by rw[<-hk,Nat.mul_comm,Nat.mul_add_mod,Nat.mod_eq_of_lt hltv]
     have bC:=Kh (Yb h0 cT);have Z:=Kh (show E4 n k=(Nat.gcd (Nat.gcd u v) n==1)by unfold E4;rw[bE,bG]);have eP:=Kh (show N3 n k=[.int .i64 (u:Int),.int .i64 (v:Int),.int .i64 1]by unfold N3;rw[bE,bG]);have bY:=Kh (show(pts n k).length<=14400 from mH (B6 n k) (by have:n*n<=120*120:=Nat.mul_le_mul hn hn;omega));have dX:=Kh (show ∀W,Calls prog 185 #[.int .i64 n,.int .i64 u,.int .i64 v] W λe w'=>e=.returned (.bool (Fj n k))/\∃m,w'=W.drewN m from λW=>hk▸Ty n u v W hlt hltv (by omega));have bA:=Kh (show u*n+(v+1)=k+1 by omega);rw[hk]at I;clear cT bE bG hk;go_wp2_with fail
     refine(Mx u v w3 (by omega) (by omega) (by omega) (by omega)).mono ?_;rintro e w4 ⟨rfl,m1,rfl⟩;have M:Int.gcd (u:Int) (v:Int)=Nat.gcd u v:=rfl;obtain⟨G,hG⟩:∃G,Nat.gcd u v=G:=⟨_,rfl⟩
     have gX:G<=1000:=by
      rw[<-hG];rcases Nat.eq_zero_or_pos u with h|h
      ·subst h;rw[Nat.gcd_zero_left];omega
      ·exact mH (Nat.gcd_le_left _ h) (by omega)
     rw[M,hG];rw[hG]at Z;clear M hG;go_wp2_with fail
     refine(Mx G n _ (by omega) (by omega) (by omega) (by omega)).mono ?_;rintro e w4 ⟨rfl,m2,rfl⟩;have M:Int.gcd (G:Int) (n:Int)=Nat.gcd G n:=rfl;rw[M,Ly];clear M;cases hg:(Nat.gcd G n==1)with
     | false=>
      have gA:(((Nat.gcd G n:Nat):Int)==1)=false:=by
       simp only[beq_eq_false_iff_ne]at hg;simp;omega
      have HE:=Kh (show pts n (k+1)=pts n k by rw[bC.1,Z.1,hg,Bool.false_and,if_neg (by decide)]);have Y:=Kh (I.1.keep (Aa (Below.refl _ w3) (m1+m2)));have J:=Kh (Aa V.1 (m1+m2));clear hg;go_wp2;go_roundw
      case rel=>exact⟨v+1,by omega,by go_num,by rw[bA.1,HE.1];exact Y.1,J.1⟩
      case measure=>simp[intOf];omega
     | true=>
      have gA:(((Nat.gcd G n:Nat):Int)==1)=true:=by
       simp only[beq_iff_eq]at hg;rw[hg];rfl
      have cC:=Kh (show E4 n k=true by rw[Z.1,hg]);clear hg Z;go_wp2_with fail
      refine(dX.1 _).mono ?_;rintro e w4 ⟨rfl,m3,rfl⟩;rw[Ly];obtain⟨w5,aK⟩:∃w5,w3.drewN (m1+m2+m3)=w5:=⟨_,rfl⟩
      have Y:=Kh (aK▸I.1.keep (Aa (Below.refl _ w3) (m1+m2+m3)));have J:=Kh (aK▸Aa V.1 (m1+m2+m3));rw[aK];clear aK I V;cases hl:Fj n k with
      | false=>
       have HE:=Kh (show pts n (k+1)=pts n k by rw[bC.1,hl,Bool.and_false,if_neg (by decide)]);clear hl;go_wp2;go_roundw
       case rel=>exact⟨v+1,by omega,by go_num,by rw[bA.1,HE.1];exact Y.1,J.1⟩
       case measure=>simp[intOf];omega
      | true=>
       have HE:=Kh (show pts n (k+1)=pts n k++[k]by rw[bC.1,hl,cC.1];rfl);have cA:=Kh (show OwnK NotU32 w5 w.heap.size 213 3 u5 (pts n k).length ((pts n k).flatMap (N3 n))from Y.1);clear hl;go_wp2_with (at_builtin;refine Bj NotU32 rfl (.tmp 35) (.tmp 39) _ 213 rfl underlying159 Ya rfl (by decide) w.heap.size (pts n k).length u5 ((pts n k).flatMap (N3 n)) [.int .i64 (u:Int),.int .i64 (v:Int),.int .i64 1] rfl cA.1 rfl rfl (by intro u hu;simp at hu;rcases hu with rfl|rfl|rfl <;> rfl) (by have:=bY.1;omega) (by have:=bY.1;omega) J.1.size (by intro u hu;simp at hu;rcases hu with rfl|rfl|rfl <;> exact λ_ h=>by cases h) (by intro u hu;simp[Value.cells]at hu;rcases hu with rfl|rfl|rfl <;> exact λ_ h=>by cases h) ?_;intro v9 w9 O aN cD;have dY:=Kh (show OwnPt n (pts n k++[k]) w9 w.heap.size v9 from OwnPt.push (by rw[eP.1];exact O));have dE:=Kh (Aw J.1 cA.1.1 aN (mG _) J.1.size);clear O aN cD)
       go_roundw
       case rel=>exact⟨v+1,by omega,by go_num,by rw[bA.1,HE.1];exact dY.1,dE.1⟩
       case measure=>simp[intOf];omega
    ·obtain rfl:n=v:=by omega
     have HE:=Kh (show u*n+n=(u+1)*n by rw[Nat.add_mul,Nat.one_mul]);go_wp2;go_roundw
     case rel=>exact⟨u+1,by omega,by go_num,by rw[<-HE.1];exact I.1,V.1⟩
     case measure=>simp[intOf];omega
  ·obtain rfl:n=u:=by omega
   go_wp2
   (first|go_ret2|go_ret)
   exact⟨⟨_,rfl,bB.1⟩,HB.1⟩
theorem Zt (n:Nat) (w:World) (O:0<n) (hn:n<=120):
  Calls prog 90 #[.int .i64 n] w λe w'=>e=.returned (.int .i64 ((pts n (n*n)).length:Int))/\Below w.heap.size w w':=by
 go_enter func90,ntmps90
 go_wp2_with fail
 refine(Vn n w O hn).mono ?_;rintro e U ⟨⟨v,rfl,I⟩,J⟩;obtain⟨p,c,rfl⟩:=Bf I.1;have M:=Kh J;clear I J;go_wp2;go_ret;exact⟨rfl,M.1⟩
end Go.Proofs.YtenlbhlllgppmaaGreatDoor
