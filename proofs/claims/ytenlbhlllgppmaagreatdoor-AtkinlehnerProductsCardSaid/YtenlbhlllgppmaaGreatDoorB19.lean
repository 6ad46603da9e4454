/- Elimination over the rationals: rows with leading entries 1, what they span, and how large the entries of a reduced row are. No program in sight. -/
import Derived.Test.YtenlbhlllgppmaaGreatDoorB18
namespace Go.Proofs.YtenlbhlllgppmaaGreatDoor
open Tryz
namespace Eli
open Tryz
open Sie
theorem Ac {f g:Nat->Rat} {n:Nat} (h:∀i,i<n->f i=g i):sumQ f n=sumQ g n:=by
 induction n with
 | zero=>rfl
 | succ n ih=>rw[sumQ,sumQ,ih (λi I=>h i (by omega)),h n (nU _)]
theorem Ap (f g:Nat->Rat) (n:Nat):sumQ (λi=>f i+g i) n=sumQ f n+sumQ g n:=by
 induction n with
 | zero=>rw[sumQ,sumQ,sumQ];grind
 | succ n ih=>rw[sumQ,sumQ,sumQ,ih];grind
theorem Am (c:Rat) (f:Nat->Rat) (n:Nat):sumQ (λi=>c*f i) n=c*sumQ f n:=by
 induction n with
 | zero=>rw[sumQ,sumQ];grind
 | succ n ih=>rw[sumQ,sumQ,ih];grind
theorem A8 {f:Nat->Rat} {n:Nat} (h:∀i,i<n->f i=0):sumQ f n=0:=by
 induction n with
 | zero=>rfl
 | succ n ih=>rw[sumQ,ih (λi I=>h i (by omega)),h n (nU _)];grind
theorem Bc {f:Nat->Rat} {n j:Nat} (J:j<n) (h:∀i,i<n->i≠j->f i=0):sumQ f n=f j:=by
 induction n with
 | zero=>omega
 | succ n ih=>
  rw[sumQ];by_cases e:j=n
  ·subst e
   rw[A8 (λi I=>h i (by omega) (by omega))];grind
  ·rw[ih (by omega) (λi I=>h i (by omega)),h n (by omega) (by omega)];grind
theorem I9 {f:Nat->Rat} {t n:Nat} (O:t<=n) (h:∀i,t<=i->i<n->f i=0):sumQ f n=sumQ f t:=by
 induction n with
 | zero=>obtain rfl:t=0:=by omega
         rfl
 | succ n ih=>
  by_cases e:t=n+1
  ·rw[e]
  ·rw[sumQ,ih (by omega) (λi I J=>h i I (by omega)),h n (by omega) (by omega)];grind
theorem aH (f:Nat->Int) (n:Nat):((sum f n:Int):Rat)=sumQ (λi=>(f i:Rat)) n:=by
 induction n with
 | zero=>rfl
 | succ n ih=>rw[sum,sumQ,<-ih,Rat.intCast_add]
def Sp (ld:Nat->Bool) (L:Nat->Nat->Rat) (t:Nat) (u:Nat->Rat):Prop:=
 ∃z:Nat->Rat,(∀j,j<t->ld j=false->z j=0)/\∀q,u q=sumQ (λj=>z j*L j q) t
theorem Sp.nil (ld:Nat->Bool) (L:Nat->Nat->Rat) (t:Nat):Sp ld L t (λ_=>0):=
 ⟨λ_=>0,λ_ _ _=>rfl,λq=>(A8 (λi _=>by grind)).symm⟩
theorem Sp.combine {ld:Nat->Bool} {L:Nat->Nat->Rat} {t:Nat} {u v:Nat->Rat} (V:Sp ld L t u) (c:Rat) (Y:Sp ld L t v):Sp ld L t (λq=>u q+c*v q):=by
 obtain⟨y,Z,O⟩:=V;obtain⟨z,h,U⟩:=Y;refine⟨λj=>y j+c*z j,λj I J=>by simp only[Z j I J,h j I J];grind,λq=>?_⟩;dsimp only;rw[O,U,<-Am,<-Ap];exact Ac λi _=>by grind
theorem Sp.mono {ld:Nat->Bool} {L:Nat->Nat->Rat} {t I:Nat} {u:Nat->Rat} (Y:Sp ld L t u) (h:t<=I):Sp ld L I u:=by
 obtain⟨y,Z,J⟩:=Y;refine⟨λj=>if j<t then y j else 0,λj hj V=>?_,λq=>?_⟩
 ·by_cases e:j<t
  ·simp only[if_pos e,Z j e V]
  ·simp only[if_neg e]
 ·rw[J,I9 h (λi O _=>by simp only[if_neg (Nat.not_lt.2 O)];grind)]
  exact Ac λi U=>by simp only[if_pos U]
theorem Sp.lead {ld:Nat->Bool} {L:Nat->Nat->Rat} {t j:Nat} (J:j<t) (O:ld j=true):Sp ld L t (L j):=by
 refine⟨λi=>if i=j then 1 else 0,λi U hn=>?_,λq=>?_⟩
 ·have:i≠j:=λe=>by rw[e,O]at hn;cases hn
  simp only[if_neg this]
 ·rw[Bc J (λi _ I=>by simp only[if_neg I];grind)]
  simp
theorem Sp.congr {ld:Nat->Bool} {L:Nat->Nat->Rat} {t:Nat} {u v:Nat->Rat} (J:Sp ld L t u) (h:∀q,v q=u q):Sp ld L t v:=by
 obtain⟨y,O,I⟩:=J;exact⟨y,O,λq=>by rw[h,I]⟩
structure Inv (B:Nat) (ld:Nat->Bool) (L:Nat->Nat->Rat) (R:Nat->Nat->Int):Prop where
 low:∀j q,q<j->L j q=0
 one:∀j,L j j=1
 free:∀j,ld j=false->∀q,L j q=if q=j then 1 else 0
 rfree:∀j,ld j=false->∀q,R j q=if q=j then 1 else 0
 got:∀p,ld p=true->∃s:Rat,s≠0/\∃u,Sp ld L p u/\∀q,(R p q:Rat)=s*L p q+u q
 bound:∀p q,(R p q).natAbs<=B
variable {B:Nat} {ld:Nat->Bool} {L:Nat->Nat->Rat} {R:Nat->Nat->Int}
theorem Inv.tri (h:Inv B ld L R) {z:Nat->Rat} {t:Nat} (Y:∀q,q<t->sumQ (λj=>z j*L j q) t=0):∀j,j<t->z j=0:=by
 intro j;induction j using Nat.strongRecOn with
 | ind j ih=>
  intro I;have J:=Y j I;rw[Bc I (λi U V=>?_),h.one]at J
  ·grind
  ·rcases Nat.lt_or_ge i j with hlt|O
   ·rw[ih i hlt U];grind
   ·rw[h.low i j (by omega)];grind
theorem Inv.row (h:Inv B ld L R) (p:Nat):∃s:Rat,s≠0/\∃u,Sp ld L p u/\∀q,(R p q:Rat)=s*L p q+u q:=by
 cases hl:ld p with
 | true=>exact h.got p hl
 | false=>
  refine⟨1,by grind,λ_=>0,Sp.nil _ _ _,λq=>?_⟩;rw[h.rfree p hl,h.free p hl];by_cases e:q=p
  ·simp only[if_pos e];grind
  ·simp only[if_neg e];grind
theorem Inv.comb (h:Inv B ld L R) (m:Nat->Rat) (t:Nat):∃z:Nat->Rat,∀q,sumQ (λp=>m p*(R p q:Rat)) t=sumQ (λj=>z j*L j q) t:=by
 induction t with
 | zero=>exact⟨λ_=>0,λq=>rfl⟩
 | succ t ih=>
  obtain⟨z,O⟩:=ih;obtain⟨s,_,u,⟨y,_,J⟩,hr⟩:=h.row t;refine⟨λj=>if j=t then m t*s else z j+m t*y j,λq=>?_⟩;dsimp only;rw[sumQ,sumQ,O,hr,J,if_pos rfl]
  have I:sumQ (λj=>(if j=t then m t*s else z j+m t*y j)*L j q) t=sumQ (λj=>z j*L j q) t+m t*sumQ (λj=>y j*L j q) t:=by
   rw[<-Am,<-Ap];exact Ac λi U=>by rw[if_neg (by omega)];grind
  rw[I];grind
theorem Inv.nonsing (h:Inv B ld L R):∀(t:Nat) (m:Nat->Rat),(∀q,q<t->sumQ (λp=>m p*(R p q:Rat)) t=0)->∀p,p<t->m p=0:=by
 intro t;induction t with
 | zero=>intro m _ p hp;omega
 | succ t ih=>
  intro m V;obtain⟨z,hz⟩:=h.comb m t;obtain⟨s,hs,u,⟨y,_,Z⟩,hr⟩:=h.row t
  have h1:∀q,q<t+1->sumQ (λj=>(if j=t then m t*s else z j+m t*y j)*L j q) (t+1)=0:=λq hq=>by
   have I:=V q hq;rw[sumQ,hz,hr,Z]at I;rw[sumQ,if_pos rfl]
   have Y:sumQ (λj=>(if j=t then m t*s else z j+m t*y j)*L j q) t=sumQ (λj=>z j*L j q) t+m t*sumQ (λj=>y j*L j q) t:=by
    rw[<-Am,<-Ap];exact Ac λi hi=>by rw[if_neg (by omega)];grind
   rw[Y];grind
  have O:=h.tri h1 t (nU _);rw[if_pos rfl]at O
  have U:m t=0:=by
   rcases Rat.mul_eq_zero.1 O with J|J
   ·exact J
   ·exact absurd J hs
  intro p hp;by_cases e:p=t
  ·rw[e];exact U
  ·refine ih m (λq hq=>?_) p (by omega)
   have I:=V q (by omega);rw[sumQ,U]at I;grind
theorem Inv.small (h:Inv B ld L R) (v:Nat->Int) (hv:∀q,(v q).natAbs<=B) (t:Nat):
  ∃(m:Int) (k:Nat->Int) (N:Nat->Int),m≠0/\m.natAbs<=cap t B/\(∀p,p<t->(k p).natAbs<=cap t B)/\(∀q,(N q).natAbs<=(t+1)*(B*cap t B)) /\
   (∀q,q<t->N q=0)/\∀q,(N q:Rat)=sumQ (λp=>(k p:Rat)*(R p q:Rat)) t+(m:Rat)*(v q:Rat):=by
 obtain⟨x,⟨i0,cA,I⟩,Y,he⟩:=Sie.small t B (λq i=>if i<t then R i q else v q) (λq i _ _=>by
  split
  ·exact h.bound i q
  ·exact hv q)
 have hN:∀q,((sum (λi=>(if i<t then R i q else v q)*x i) (t+1):Int):Rat)=sumQ (λp=>(x p:Rat)*(R p q:Rat)) t+(x t:Rat)*(v q:Rat):=λq=>by
  rw[aH,sumQ,if_neg (Nat.lt_irrefl t),Rat.intCast_mul]
  have e1:sumQ (λi=>(((if i<t then R i q else v q)*x i:Int):Rat)) t=sumQ (λp=>(x p:Rat)*(R p q:Rat)) t:=
   Ac λi V=>by rw[if_pos V,Rat.intCast_mul];grind
  rw[e1];grind
 refine⟨x t,x,λq=>sum (λi=>(if i<t then R i q else v q)*x i) (t+1),?_,Y t (nU _),λp hp=>Y p (by omega),λq=>?_,λq hq=>he q hq,hN⟩
 ·intro Z
  have U:∀q,q<t->sumQ (λp=>(x p:Rat)*(R p q:Rat)) t=0:=λq hq=>by
   have J:=hN q;rw[he q hq,Z]at J;have O:((0:Int):Rat)=0:=rfl;rw[O]at J;grind
  have J:=h.nonsing t (λp=>(x p:Rat)) U;by_cases e:i0=t
  ·rw[e]at I;exact I Z
  ·have O:=J i0 (by omega)
   exact I (by exact_mod_cast O)
 ·have U:∀i,i<t+1->-((B*cap t B:Nat):Int)<=(if i<t then R i q else v q)*x i/\(if i<t then R i q else v q)*x i<=((B*cap t B:Nat):Int):=λi V=>by
   have J:((if i<t then R i q else v q)*x i).natAbs<=B*cap t B:=by
    rw[Int.natAbs_mul];refine Nat.mul_le_mul ?_ (Y i V);split
    ·exact h.bound i q
    ·exact hv q
   omega
  have O:=Na U;have h4:((t+1:Nat):Int)*((B*cap t B:Nat):Int)=(((t+1)*(B*cap t B):Nat):Int):=by rw[<-Int.natCast_mul]
  rw[h4]at O;show(sum (λi=>(if i<t then R i q else v q)*x i) (t+1)).natAbs<=(t+1)*(B*cap t B);omega
theorem Inv.height (h:Inv B ld L R) (v:Nat->Int) (hv:∀q,(v q).natAbs<=B) (r:Nat->Rat) (t:Nat) (u:Nat->Rat) (hu:Sp ld L t u) (he:∀q,(v q:Rat)=r q+u q) (h0:∀q,q<t->r q=0):
  ∃(m:Int) (N:Nat->Int),m≠0/\m.natAbs<=cap t B/\(∀q,(N q).natAbs<=(t+1)*(B*cap t B))/\∀q,(m:Rat)*r q=(N q:Rat):=by
 obtain⟨m,k,N,hm,O,_,J,I,hN⟩:=h.small v hv t;refine⟨m,N,hm,O,J,?_⟩;obtain⟨z,hz⟩:=h.comb (λp=>(k p:Rat)) t;obtain⟨y,_,Z⟩:=hu
 have U:∀q,(N q:Rat) - (m:Rat)*r q=sumQ (λj=>(z j+(m:Rat)*y j)*L j q) t:=λq=>by
  have Y:sumQ (λj=>(z j+(m:Rat)*y j)*L j q) t=sumQ (λj=>z j*L j q) t+(m:Rat)*sumQ (λj=>y j*L j q) t:=by
   rw[<-Am,<-Ap];exact Ac λi V=>by grind
  rw[Y,hN,hz,he,Z];grind
 have h1:=h.tri (λq hq=>by
  rw[<-U,h0 q hq,I q hq];have:((0:Int):Rat)=0:=rfl;rw[this];grind)
 intro q;have h2:=U q;rw[A8 (λi V=>by rw[h1 i V];grind)]at h2;grind
theorem Inv.coords (h:Inv B ld L R) (v:Nat->Int) (hv:∀q,(v q).natAbs<=B) (n:Nat) (x:Nat->Rat) (u:Nat->Rat) (hu:Sp ld L n u)
  (he:∀q,(v q:Rat)=sumQ (λf=>(if ld f then 0 else x f)*L f q) n+u q):
  ∃(m:Int) (N:Nat->Int),m≠0/\m.natAbs<=cap n B/\(∀f,f<n->(N f).natAbs<=cap n B)/\∀f,f<n->ld f=false->(m:Rat)*x f=(N f:Rat):=by
 obtain⟨m,k,N,hm,bC,bB,_,bA,hN⟩:=h.small v hv n;refine⟨m,λf=>-k f,hm,bC,λf J=>by have:=bB f J;show(-k f).natAbs<=_;omega,?_⟩;obtain⟨y,hy,ey⟩:=hu
 have hc:∀t,t<=n->∃z:Nat->Rat,(∀f,f<t->ld f=false->z f=(k f:Rat))/\∀q,sumQ (λp=>(k p:Rat)*(R p q:Rat)) t=sumQ (λj=>z j*L j q) t:=by
  intro t;induction t with
  | zero=>intro _;exact⟨λ_=>0,λf J=>absurd J (Nat.not_lt_zero _),λq=>rfl⟩
  | succ t ih=>
   intro ht;obtain⟨z,V,U⟩:=ih (by omega);cases O:ld t with
   | false=>
    refine⟨λj=>if j=t then(k t:Rat)else z j,λf J I=>?_,λq=>?_⟩
    ·by_cases e:f=t
     ·simp only[e,if_true]
     ·simp only[if_neg e];exact V f (by omega) I
    ·dsimp only
     rw[sumQ,sumQ,U,if_pos rfl,h.free t O,h.rfree t O];have Y:sumQ (λj=>(if j=t then(k t:Rat)else z j)*L j q) t=sumQ (λj=>z j*L j q) t:=Ac λi hi=>by rw[if_neg (by omega)]
     rw[Y];by_cases e:q=t
     ·simp only[if_pos e];grind
     ·simp only[if_neg e];grind
   | true=>
    obtain⟨s,_,u',⟨y',bY,aX⟩,hr⟩:=h.got t O;refine⟨λj=>if j=t then(k t:Rat)*s else z j+(k t:Rat)*y' j,λf J I=>?_,λq=>?_⟩
    ·have bE:f≠t:=λe=>by rw[e,O]at I;cases I
     simp only[if_neg bE];rw[V f (by omega) I,bY f (by omega) I];grind
    ·dsimp only
     rw[sumQ,sumQ,U,hr,aX,if_pos rfl]
     have Y:sumQ (λj=>(if j=t then(k t:Rat)*s else z j+(k t:Rat)*y' j)*L j q) t=sumQ (λj=>z j*L j q) t+(k t:Rat)*sumQ (λj=>y' j*L j q) t:=by
      rw[<-Am,<-Ap];exact Ac λi hi=>by rw[if_neg (by omega)];grind
     rw[Y];grind
 obtain⟨z,V,U⟩:=hc n (nR _)
 have h1:=h.tri (t:=n) (z:=λj=>z j+(m:Rat)*((if ld j then 0 else x j)+y j)) (λq hq=>by
  have e2:sumQ (λj=>(z j+(m:Rat)*((if ld j then 0 else x j)+y j))*L j q) n=sumQ (λj=>z j*L j q) n+(m:Rat)*(sumQ (λf=>(if ld f then 0 else x f)*L f q) n+sumQ (λj=>y j*L j q) n):=by
   rw[<-Ap,<-Am,<-Ap];exact Ac λi hi=>by grind
  have Z:=hN q;rw[bA q hq,he,ey,U]at Z;have:((0:Int):Rat)=0:=rfl;rw[this]at Z;rw[e2];exact Z.symm)
 intro f J O;have h2:=h1 f J;rw[V f J O,hy f J O,O]at h2;simp only[Bool.false_eq_true,if_false]at h2;rw[Rat.intCast_neg];grind
end Eli
end Go.Proofs.YtenlbhlllgppmaaGreatDoor
namespace Go.Proofs.YtenlbhlllgppmaaGreatDoor
open Tryz
namespace Eli
open Tryz
open Sie
def val:List (Nat×Rat)->Nat->Rat
 | [],_=>0
 | t :: r,q=>(if q=t.1 then t.2 else 0)+val r q
def Ord (n:Nat):Nat->List (Nat×Rat)->Prop
 | _,[]=>True
 | t,x :: r=>t<=x.1/\x.1<n/\x.2≠0/\Ord n (x.1+1) r
theorem Ord.mono {n:Nat}:∀{t s:Nat} {r:List (Nat×Rat)},Ord n t r->s<=t->Ord n s r
 | _,_,[],_,_=>trivial
 | _,_,_ :: _,h,hs=>⟨nS hs h.1,h.2⟩
theorem J5 {n:Nat}:∀{t:Nat} {r:List (Nat×Rat)},Ord n t r->∀q,q<t->val r q=0
 | _,[],_,_,_=>rfl
 | t,x :: r,h,q,hq=>by
  have I:=h.1;rw[val,if_neg (by omega),J5 h.2.2.2 q (by omega)];grind
theorem Dw {n:Nat}:∀{t:Nat} {r:List (Nat×Rat)},Ord n t r->∀x,x∈r->val r x.1=x.2/\t<=x.1/\x.1<n/\x.2≠0
 | _,[],_,_,I=>by cases I
 | t,y :: r,h,x,I=>by
  rcases List.mem_cons.1 I with rfl|I
  ·refine⟨?_,h.1,h.2.1,h.2.2.1⟩
   rw[val,if_pos rfl,J5 h.2.2.2 _ (by omega)];grind
  ·obtain⟨J,V,O,U⟩:=Dw h.2.2.2 x I
   have Y:=h.1;refine⟨?_,by omega,O,U⟩;rw[val,if_neg (by omega),J];grind
def aU (c:Rat) (p:Nat) (x:Rat) (more:List (Nat×Rat)->List (Nat×Rat)):List (Nat×Rat)->List (Nat×Rat)
 | []=>(p,x) :: more []
 | y :: b=>if p<y.1 then(p,x) :: more (y :: b)else if y.1<p then(y.1,-(c*y.2)) :: aU c p x more b else if x - c*y.2=0 then more b else(p,x - c*y.2) :: more b
def Hi (c:Rat):List (Nat×Rat)->List (Nat×Rat)->List (Nat×Rat)
 | []=>λb=>b.map (λy=>(y.1,-(c*y.2)))
 | x :: a=>aU c x.1 x.2 (Hi c a)
theorem Te (c:Rat):Hi c [] []=[]:=rfl
theorem mrg_left (c:Rat) (x:Nat×Rat) (a:List (Nat×Rat)):Hi c (x :: a) []=x :: Hi c a []:=rfl
theorem mrg_right (c:Rat) (y:Nat×Rat) (b:List (Nat×Rat)):Hi c [] (y :: b)=(y.1,-(c*y.2)) :: Hi c [] b:=rfl
theorem R4 (c:Rat) (x y:Nat×Rat) (a b:List (Nat×Rat)) (h:x.1<y.1):Hi c (x :: a) (y :: b)=x :: Hi c a (y :: b):=by
 show aU c x.1 x.2 (Hi c a) (y :: b)=_;rw[aU,if_pos h]
theorem R3 (c:Rat) (x y:Nat×Rat) (a b:List (Nat×Rat)) (h:y.1<x.1):Hi c (x :: a) (y :: b)=(y.1,-(c*y.2)) :: Hi c (x :: a) b:=by
 show aU c x.1 x.2 (Hi c a) (y :: b)=_;rw[aU,if_neg (by omega),if_pos h];rfl
theorem Jt (c:Rat) (x y:Nat×Rat) (a b:List (Nat×Rat)) (h:x.1=y.1) (I:x.2 - c*y.2=0):Hi c (x :: a) (y :: b)=Hi c a b:=by
 show aU c x.1 x.2 (Hi c a) (y :: b)=_;rw[aU,if_neg (by omega),if_neg (by omega),if_pos I]
theorem Oc (c:Rat) (x y:Nat×Rat) (a b:List (Nat×Rat)) (h:x.1=y.1) (I:x.2 - c*y.2≠0):Hi c (x :: a) (y :: b)=(x.1,x.2 - c*y.2) :: Hi c a b:=by
 show aU c x.1 x.2 (Hi c a) (y :: b)=_;rw[aU,if_neg (by omega),if_neg (by omega),if_neg I]
theorem Be (x:Nat×Rat) (r:List (Nat×Rat)) (q:Nat):val (x :: r) q=(if q=x.1 then x.2 else 0)+val r q:=rfl
theorem J6 (q:Nat):val [] q=0:=rfl
theorem eR (c:Rat) (q:Nat):∀(a b:List (Nat×Rat)),val (Hi c a b) q=val a q - c*val b q:=by
 intro a;induction a with
 | nil=>
  intro b;induction b with
  | nil=>rw[Te,J6];grind
  | cons y b ih=>
   rw[mrg_right,Be,ih,Be,J6];dsimp only;split <;> grind
 | cons x a iha=>
  intro b;induction b with
  | nil=>
   rw[mrg_left,Be,iha,Be,J6];clear iha;grind
  | cons y b ihb=>
   have I:=iha b;have J:=iha (y :: b);clear iha;rw[Be]at ihb J;rcases Nat.lt_trichotomy x.1 y.1 with h|h|h
   ·rw[R4 c x y a b h,Be,J,Be,Be]
    clear ihb I J;generalize (if q=x.1 then x.2 else 0)=e1;generalize (if q=y.1 then y.2 else 0)=e2;grind
   ·by_cases h0:x.2 - c*y.2=0
    ·rw[Jt c x y a b h h0,I,Be,Be,h]
     clear ihb I J;by_cases e:q=y.1
     ·rw[if_pos e,if_pos e];grind
     ·rw[if_neg e,if_neg e];grind
    ·rw[Oc c x y a b h h0,Be,I,Be,Be,h]
     clear ihb I J;by_cases e:q=y.1
     ·rw[if_pos e,if_pos e];grind
     ·rw[if_neg e,if_neg e];grind
   ·rw[R3 c x y a b h,Be,ihb,Be,Be]
    clear ihb I J;dsimp only;by_cases e:q=y.1
    ·rw[if_pos e,if_neg (by omega),if_pos e];grind
    ·rw[if_neg e,if_neg e];grind
theorem dM {n:Nat} {c:Rat} (Y:c≠0):∀(a b:List (Nat×Rat)) (t:Nat),Ord n t a->Ord n t b->Ord n t (Hi c a b):=by
 have O:∀y:Rat,y≠0->-(c*y)≠0:=λy Z h=>by
  have V:c*y=0:=by grind
  rcases Rat.mul_eq_zero.1 V with U|U
  ·exact Y U
  ·exact Z U
 intro a;induction a with
 | nil=>
  intro b;induction b with
  | nil=>intro t _ _;exact trivial
  | cons y b ih=>intro t I J;rw[mrg_right];exact⟨J.1,J.2.1,O _ J.2.2.1,ih _ trivial J.2.2.2⟩
 | cons x a iha=>
  intro b;induction b with
  | nil=>intro t I J;rw[mrg_left];exact⟨I.1,I.2.1,I.2.2.1,iha [] _ I.2.2.2 trivial⟩
  | cons y b ihb=>
   intro t I J;rcases Nat.lt_trichotomy x.1 y.1 with h|h|h
   ·rw[R4 c x y a b h];exact⟨I.1,I.2.1,I.2.2.1,iha _ _ I.2.2.2 ⟨h,J.2⟩⟩
   ·by_cases h0:x.2 - c*y.2=0
    ·rw[Jt c x y a b h h0]
     have V:=I.1;exact(iha b (x.1+1) I.2.2.2 (h▸J.2.2.2)).mono (by omega)
    ·rw[Oc c x y a b h h0]
     exact⟨I.1,I.2.1,h0,iha b (x.1+1) I.2.2.2 (h▸J.2.2.2)⟩
   ·rw[R3 c x y a b h]
    exact⟨J.1,J.2.1,O _ J.2.2.1,ihb (y.1+1) ⟨h,I.2⟩ J.2.2.2⟩
def Q6 (f:Nat->Int):Nat->List (Nat×Rat)
 | 0=>[]
 | n+1=>if f n=0 then Q6 f n else Q6 f n++[(n,(f n:Rat))]
theorem Ls (a b:List (Nat×Rat)) (q:Nat):val (a++b) q=val a q+val b q:=by
 induction a with
 | nil=>rw[List.nil_append,val];grind
 | cons x a ih=>rw[List.cons_append,val,val,ih];grind
theorem La {n:Nat} {c:Rat} (hn:0<n) (I:c≠0):∀(a:List (Nat×Rat)) (t:Nat),Ord (n - 1) t a->t<=n - 1->Ord n t (a++[(n - 1,c)])
 | [],t,_,ht=>⟨ht,by dsimp only;omega,I,trivial⟩
 | x :: a,t,h,ht=>⟨h.1,by have:=h.2.1;omega,h.2.2.1,La hn I a _ h.2.2.2 (by have:=h.2.1;omega)⟩
theorem Ord.wide {n I:Nat} (hn:n<=I):∀{t:Nat} {r:List (Nat×Rat)},Ord n t r->Ord I t r
 | _,[],_=>trivial
 | _,_ :: _,h=>⟨h.1,by have:=h.2.1;omega,h.2.2.1,Ord.wide hn h.2.2.2⟩
theorem Tl (f:Nat->Int) (n:Nat):Ord n 0 (Q6 f n):=by
 induction n with
 | zero=>exact trivial
 | succ n ih=>
  rw[Q6];split
  ·exact ih.wide (Nat.le_succ _)
  ·rename_i h
   exact La (n:=n+1) (Nat.succ_pos _) (by intro I;exact h (by exact_mod_cast I)) _ 0 ih (Nat.zero_le _)
theorem eS (f:Nat->Int) (n q:Nat):val (Q6 f n) q=if q<n then(f q:Rat)else 0:=by
 induction n with
 | zero=>rfl
 | succ n ih=>
  rw[Q6];by_cases h:f n=0
  ·rw[if_pos h,ih]
   by_cases h1:q<n
   ·rw[if_pos h1,if_pos (by omega)]
   ·rw[if_neg h1]
    by_cases h2:q=n
    ·rw[if_pos (by omega),h2,h];rfl
    ·rw[if_neg (by omega)]
  ·rw[if_neg h,Ls,ih,val,val]
   by_cases h2:q=n
   ·rw[if_neg (by omega),if_pos h2,if_pos (by omega),h2];grind
   ·rw[if_neg h2]
    by_cases h1:q<n
    ·rw[if_pos h1,if_pos (by omega)];grind
    ·rw[if_neg h1,if_neg (by omega)];grind
def Sb (leads:Nat->List (Nat×Rat)):List (Nat×Rat)->List (Nat×Rat)
 | []=>[]
 | x :: r=>if leads x.1=[]then x :: r else Hi x.2 (x :: r) (leads x.1)
def Fl (leads:Nat->List (Nat×Rat)):Nat->List (Nat×Rat)->List (Nat×Rat)
 | 0,r=>r
 | k+1,r=>Sb leads (Fl leads k r)
def scl:List (Nat×Rat)->List (Nat×Rat)
 | []=>[]
 | x :: r=>(x :: r).map (λy=>(y.1,1 / x.2*y.2))
def put (leads:Nat->List (Nat×Rat)) (r:List (Nat×Rat)):Nat->List (Nat×Rat):=
 match r with
 | []=>leads
 | x :: r=>λj=>if j=x.1 then scl (x :: r)else leads j
def elim (n:Nat) (rows:Nat->Nat->Int):Nat->Nat->List (Nat×Rat)
 | 0=>λ_=>[]
 | i+1=>put (elim n rows i) (Fl (elim n rows i) n (Q6 (rows i) n))
def ldOf (leads:Nat->List (Nat×Rat)) (j:Nat):Bool:=!(leads j).isEmpty
def rowOf (leads:Nat->List (Nat×Rat)) (j q:Nat):Rat:=if ldOf leads j then val (leads j) q else if q=j then 1 else 0
theorem Ch {leads:Nat->List (Nat×Rat)} {j:Nat} (h:leads j=[]):ldOf leads j=false:=by rw[ldOf,h];rfl
theorem Dd {leads:Nat->List (Nat×Rat)} {j:Nat} (h:leads j≠[]):ldOf leads j=true:=by
 rw[ldOf];cases e:leads j with
 | nil=>exact absurd e h
 | cons x r=>rfl
def top (n B:Nat):Nat:=nd ((n+1)*(B*cap n B)+cap n B)
structure Good (n B:Nat) (leads:Nat->List (Nat×Rat)):Prop where
 inv:∃R,Inv B (ldOf leads) (rowOf leads) R
 ord:∀j,Ord n j (leads j)
 head:∀j,leads j=[]∨∃r,leads j=(j,1) :: r
 size:∀j x,x∈leads j->hq x.2<=top n B
def RowOk (n:Nat) (leads:Nat->List (Nat×Rat)) (v:Nat->Int) (t:Nat) (r:List (Nat×Rat)):Prop:=
 Ord n t r/\∃u,Sp (ldOf leads) (rowOf leads) t u/\∀q,(v q:Rat)=val r q+u q
theorem Kr {t n B:Nat} (h:t<=n):cap t B<=cap n B:=by
 have I:2*(t+1)*B+1<=2*(n+1)*B+1:=by
  have:=Nat.mul_le_mul_right B (show 2*(t+1)<=2*(n+1)by omega);omega
 exact nS (Nat.pow_le_pow_left I t) (Nat.pow_le_pow_right (Nat.succ_pos _) h)
theorem Jw {n B t k:Nat} (J:t<=n) (I:k<=(t+1)*(B*cap t B)):nd k<=top n B:=by
 refine Bv (nS I (nS ?_ (Nat.le_add_right _ _)));exact Nat.mul_le_mul (by omega) (Nat.mul_le_mul_left _ (Kr J))
theorem Gm {n B t k:Nat} (J:t<=n) (I:k<=cap t B):nd k<=top n B:=
 Bv (nS I (nS (Kr J) (Nat.le_add_left _ _)))
theorem D7 {m N:Int} {r:Rat} (I:m≠0) (h:(m:Rat)*r=(N:Rat)):r=Rat.divInt N m:=by
 have J:(m:Rat)≠0:=λe=>I (by exact_mod_cast e)
 rw[Rat.divInt_eq_div];grind
theorem Ord.top {n:Nat}:∀{t:Nat} {r:List (Nat×Rat)},Ord n t r->n<=t->r=[]
 | _,[],_,_=>rfl
 | _,x :: r,h,ht=>by have I:=h.1;have J:=h.2.1;omega
theorem RowOk.size {n B:Nat} {leads:Nat->List (Nat×Rat)} {v:Nat->Int} {t:Nat} {r:List (Nat×Rat)} (hr:RowOk n leads v t r) (h:Good n B leads) (hv:∀q,(v q).natAbs<=B):
  (∀x,x∈r->hq x.2<=top n B)/\∀x y,x∈r->y∈r->hq (1 / x.2*y.2)<=top n B:=by
 obtain⟨R,hi⟩:=h.inv;obtain⟨O,u,hu,he⟩:=hr;by_cases ht:n<=t
 ·rw[O.top ht]
  refine⟨λx J=>?_,λx y J _=>?_⟩ <;> cases J
 ·obtain⟨m,N,Z,aX,Y,V⟩:=hi.height v hv (val r) t u hu he (J5 O)
  have bA:(m:Rat)≠0:=λe=>Z (by exact_mod_cast e)
  refine⟨λx J=>?_,λx y J hy=>?_⟩
  ·have I:=V x.1
   rw[(Dw O x J).1]at I;rw[D7 Z I];exact Dt Z (Jw (by omega) (Y _)) (Gm (by omega) aX)
  ·have I:=V x.1
   have h2:=V y.1;obtain⟨e1,_,_,h4⟩:=Dw O x J;rw[e1]at I;rw[(Dw O y hy).1]at h2
   have h3:N x.1≠0:=λe=>by
    rw[e]at I;rcases Rat.mul_eq_zero.1 (I.trans rfl)with U|U
    ·exact bA U
    ·exact h4 U
   have h6:(N x.1:Rat)*(1 / x.2*y.2)=(N y.1:Rat):=by rw[<-I,<-h2];grind
   rw[D7 h3 h6];exact Dt h3 (Jw (by omega) (Y _)) (Jw (by omega) (Y _))
theorem RowOk.first (n:Nat) (leads:Nat->List (Nat×Rat)) (v:Nat->Int) (I:∀q,n<=q->v q=0):RowOk n leads v 0 (Q6 v n):=by
 refine⟨Tl v n,λ_=>0,Sp.nil _ _ _,λq=>?_⟩;rw[eS];by_cases h:q<n
 ·rw[if_pos h];grind
 ·rw[if_neg h,I q (by omega)]
  have:((0:Int):Rat)=0:=rfl;rw[this];grind
theorem RowOk.step {n B:Nat} {leads:Nat->List (Nat×Rat)} {v:Nat->Int} {t:Nat} {x:Nat×Rat} {r:List (Nat×Rat)} (hr:RowOk n leads v t (x :: r)) (h:Good n B leads) (J:leads x.1≠[]):
  RowOk n leads v (x.1+1) (Sb leads (x :: r))/\Sb leads (x :: r)=Hi x.2 (x :: r) (leads x.1)/\∃b,leads x.1=(x.1,1) :: b/\Hi x.2 (x :: r) (leads x.1)=Hi x.2 r b:=by
 obtain⟨V,u,hu,he⟩:=hr;obtain⟨b,U⟩:=(h.head x.1).resolve_left J;have O:Sb leads (x :: r)=Hi x.2 (x :: r) (leads x.1):=by rw[Sb,if_neg J]
 have Y:Hi x.2 (x :: r) (leads x.1)=Hi x.2 r b:=by rw[U];exact Jt _ _ _ _ _ rfl (by grind)
 have I:=h.ord x.1;rw[U]at I;have h1:=V.1;refine⟨⟨?_,λq=>u q+x.2*rowOf leads x.1 q,(hu.mono (by omega)).combine _ (Sp.lead (nU _) (Dd J)),λq=>?_⟩,O,b,U,Y⟩
 ·rw[O,Y]
  exact dM V.2.2.1 _ _ _ V.2.2.2 I.2.2.2
 ·have Z:rowOf leads x.1 q=val (leads x.1) q:=by rw[rowOf,Dd J];rfl
  show(v q:Rat)=val (Sb leads (x :: r)) q+(u q+x.2*rowOf leads x.1 q)
  rw[O,eR,he,Z];grind
theorem I5 {leads:Nat->List (Nat×Rat)} {x:Nat×Rat} {r:List (Nat×Rat)} (I:leads x.1=[]):Sb leads (x :: r)=x :: r:=by rw[Sb,if_pos I]
theorem RowOk.steps {n B:Nat} {leads:Nat->List (Nat×Rat)} {v:Nat->Int} {r:List (Nat×Rat)} (hr:RowOk n leads v 0 r) (h:Good n B leads) (k:Nat):
  ∃t,RowOk n leads v t (Fl leads k r)/\(k<=t∨Sb leads (Fl leads k r)=Fl leads k r):=by
 induction k with
 | zero=>exact⟨0,hr,.inl (nR _)⟩
 | succ k ih=>
  obtain⟨t,I,J⟩:=ih;rw[Fl];rcases J with J|J
  ·cases e:Fl leads k r with
   | nil=>exact⟨t,by rw[e]at I;exact I,.inr rfl⟩
   | cons x r'=>
    rw[e]at I;by_cases hl:leads x.1=[]
    ·rw[I5 hl]
     exact⟨t,I,.inr (I5 hl)⟩
    ·have O:=I.1.1
     exact⟨x.1+1,(I.step h hl).1,.inl (by omega)⟩
  ·rw[J]
   exact⟨t,I,.inr J⟩
theorem Hh {leads:Nat->List (Nat×Rat)} {r:List (Nat×Rat)} {k:Nat} (h:Sb leads (Fl leads k r)=Fl leads k r) (m:Nat) (I:k<=m):Fl leads m r=Fl leads k r:=by
 induction m with
 | zero=>obtain rfl:k=0:=by omega
         rfl
 | succ m ih=>
  by_cases e:k=m+1
  ·rw[e]
  ·rw[Fl,ih (by omega),h]
theorem RowOk.end_still {n B:Nat} {leads:Nat->List (Nat×Rat)} {v:Nat->Int} {r:List (Nat×Rat)} (hr:RowOk n leads v 0 r) (h:Good n B leads):Sb leads (Fl leads n r)=Fl leads n r:=by
 obtain⟨t,J,I⟩:=hr.steps h n;rcases I with I|I
 ·rw[J.1.top I];rfl
 ·exact I
theorem Sp.turn {ld ld':Nat->Bool} {L J:Nat->Nat->Rat} {t:Nat} {u:Nat->Rat} (V:Sp ld L t u) (h:∀j,j<t->ld j=true->ld' j=true/\J j=L j):Sp ld' J t u:=by
 obtain⟨z,O,U⟩:=V;refine⟨z,λj I hn=>?_,λq=>?_⟩
 ·cases e:ld j with
  | false=>exact O j I e
  | true=>rw[(h j I e).1]at hn;cases hn
 ·rw[U]
  refine Ac λj I=>?_
  cases e:ld j with
  | false=>rw[O j I e];grind
  | true=>rw[(h j I e).2]
theorem T8 (x:Nat×Rat) (r:List (Nat×Rat)) (q:Nat):val (scl (x :: r)) q=1 / x.2*val (x :: r) q:=by
 rw[scl];generalize x :: r=l;induction l with
 | nil=>rw[List.map_nil,val];grind
 | cons y l ih=>
  rw[List.map_cons,val,val,ih];by_cases h:q=y.1
  ·simp only[if_pos h];grind
  ·simp only[if_neg h];grind
theorem Tk {n:Nat} {c:Rat} (J:c≠0):∀{t:Nat} {l:List (Nat×Rat)},Ord n t l->Ord n t (l.map (λy=>(y.1,1 / c*y.2)))
 | _,[],_=>trivial
 | _,y :: l,h=>⟨h.1,h.2.1,λe=>by
   rcases Rat.mul_eq_zero.1 e with I|I
   ·exact J (by grind)
   ·exact h.2.2.1 I,Tk J h.2.2.2⟩
theorem Good.put {n B:Nat} {leads:Nat->List (Nat×Rat)} {v:Nat->Int} {t:Nat} {r:List (Nat×Rat)} (h:Good n B leads) (hr:RowOk n leads v t r) (hv:∀q,(v q).natAbs<=B) (hs:Sb leads r=r):Good n B (Eli.put leads r):=by
 cases r with
 | nil=>exact h
 | cons x r=>
  have cF:leads x.1=[]:=by
   refine Classical.byContradiction λhl=>?_
   obtain⟨⟨ho,_⟩,_⟩:=hr.step h hl;rw[hs]at ho;have:=ho.1;omega
  obtain⟨_,cG⟩:=hr.size h hv;obtain⟨ho,u,hu,he⟩:=hr;obtain⟨R,hi⟩:=h.inv;have hx:=ho.2.2.1;obtain⟨O,bY⟩:∃O,Eli.put leads (x :: r)=O:=⟨_,rfl⟩
  have eP:∀j,O j=if j=x.1 then scl (x :: r)else leads j:=λj=>by rw[<-bY];rfl
  have e1:O x.1=scl (x :: r):=by rw[eP,if_pos rfl]
  have e2:∀j,j≠x.1->O j=leads j:=λj J=>by rw[eP,if_neg J]
  have e3:scl (x :: r)≠[]:=by rw[scl];intro e;cases e
  have Y:ldOf O x.1=true:=Dd (by rw[e1];exact e3);have I:∀j,j≠x.1->ldOf O j=ldOf leads j:=λj J=>by rw[ldOf,e2 j J];rfl
  have V:∀j,j≠x.1->rowOf O j=rowOf leads j:=λj J=>by funext q;rw[rowOf,rowOf,I j J,e2 j J]
  have aX:∀q,rowOf O x.1 q=1 / x.2*val (x :: r) q:=λq=>by rw[rowOf,Y,if_pos rfl,e1,T8]
  have U:∀t u,Sp (ldOf leads) (rowOf leads) t u->Sp (ldOf O) (rowOf O) t u:=λt u hu=>hu.turn λj _ hl=>by
   have cB:j≠x.1:=λe=>by rw[e,Ch cF]at hl;cases hl
   exact⟨by rw[I j cB];exact hl,V j cB⟩
  have Z:Ord n x.1 (x :: r):=⟨nR _,ho.2⟩
  rw[bY];refine⟨⟨λj=>if j=x.1 then v else R j,?_⟩,λj=>?_,λj=>?_,λj y hy=>?_⟩
  ·constructor
   ·intro j q hq
    by_cases e:j=x.1
    ·subst e;rw[aX,J5 Z q hq];grind
    ·rw[V j e];exact hi.low j q hq
   ·intro j
    by_cases e:j=x.1
    ·subst e;rw[aX,(Dw Z x (List.mem_cons_self ..)).1];grind
    ·rw[V j e];exact hi.one j
   ·intro j J q
    have e:j≠x.1:=λe=>by rw[e,Y]at J;cases J
    rw[V j e];exact hi.free j (by rw[<-I j e];exact J) q
   ·intro j J q
    have e:j≠x.1:=λe=>by rw[e,Y]at J;cases J
    simp only[if_neg e];exact hi.rfree j (by rw[<-I j e];exact J) q
   ·intro p hp
    by_cases e:p=x.1
    ·subst e
     refine⟨x.2,hx,u,(U _ _ (hu.mono ho.1)),λq=>?_⟩;rw[if_pos rfl,he,aX];grind
    ·obtain⟨s,h0,u2,hu2,cD⟩:=hi.got p (by rw[<-I p e];exact hp)
     refine⟨s,h0,u2,U _ _ hu2,λq=>?_⟩;rw[if_neg e,V p e];exact cD q
   ·intro p q
    show((if p=x.1 then v else R p) q).natAbs<=B;split
    ·exact hv q
    ·exact hi.bound p q
  ·by_cases e:j=x.1
   ·subst e;rw[e1,scl];exact Tk hx Z
   ·rw[e2 j e];exact h.ord j
  ·by_cases e:j=x.1
   ·subst e
    refine .inr ⟨r.map (λy=>(y.1,1 / x.2*y.2)),?_⟩;rw[e1,scl,List.map_cons];have:1 / x.2*x.2=1:=by grind
    rw[this]
   ·rw[e2 j e];exact h.head j
  ·by_cases e:j=x.1
   ·subst e
    rw[e1,scl]at hy;obtain⟨z,hz,rfl⟩:=List.mem_map.1 hy;exact cG x z (List.mem_cons_self ..) hz
   ·rw[e2 j e]at hy;exact h.size j y hy
theorem Good.nil {n B:Nat} (hB:1<=B):Good n B (λ_=>[]):=
 ⟨⟨λj q=>if q=j then 1 else 0,by
  have J:∀j,ldOf (λ_=>[]) j=false:=λj=>rfl
  have hr:∀j q,rowOf (λ_=>[]) j q=if q=j then 1 else 0:=λj q=>rfl
  constructor
  ·intro j q hq;rw[hr,if_neg (by omega)]
  ·intro j;rw[hr,if_pos rfl]
  ·intro j _ q;rw[hr]
  ·intro j _ q;rfl
  ·intro p I;rw[J]at I;cases I
  ·intro p q;split
   ·exact hB
   ·exact Nat.zero_le _⟩,λ_=>trivial,λ_=>.inl rfl,λ_ _ O=>by cases O⟩
theorem Good.elim {n B:Nat} {rows:Nat->Nat->Int} (hB:1<=B) (O:∀i q,(rows i q).natAbs<=B) (I:∀i q,n<=q->rows i q=0) (k:Nat):Good n B (elim n rows k):=by
 induction k with
 | zero=>exact Good.nil hB
 | succ k ih=>
  have hr:=RowOk.first n (Eli.elim n rows k) (rows k) (I k)
  obtain⟨t,J,_⟩:=hr.steps ih n;exact ih.put J (O k) (hr.end_still ih)
end Eli
namespace Eli
open Tryz
open Sie
theorem N7 (q:Rat):hq (-q)=hq q:=by rw[hq,hq,Rat.neg_num,Rat.neg_den,Int.natAbs_neg]
theorem N8:hq 0=1:=by rw[hq];decide
theorem Yk:hq 1=1:=by rw[hq];decide
def Ef (X:Nat->Nat->Rat):List (Nat×Rat)->Nat->Rat
 | [],_=>0
 | t :: r,f=>Ef X r f+-t.2*X t.1 f
def newRow (leads:Nat->List (Nat×Rat)) (X:Nat->Nat->Rat) (j f:Nat):Rat:=
 if leads j=[]then(if f=j then 1 else 0)else Ef X (leads j).tail.reverse f
def B5 (leads:Nat->List (Nat×Rat)) (n:Nat):Nat->Nat->Nat->Rat
 | 0=>λ_ _=>0
 | k+1=>λj=>if j=n - 1 - k then newRow leads (B5 leads n k) j else B5 leads n k j
theorem Sk (X:Nat->Nat->Rat) (a b:List (Nat×Rat)) (f:Nat):Ef X (a++b) f=Ef X a f+Ef X b f:=by
 induction a with
 | nil=>rw[List.nil_append,Ef];grind
 | cons x a ih=>rw[List.cons_append,Ef,Ef,ih];grind
theorem Qw (X:Nat->Nat->Rat) (a:List (Nat×Rat)) (f:Nat):Ef X a.reverse f=Ef X a f:=by
 induction a with
 | nil=>rfl
 | cons x a ih=>rw[List.reverse_cons,Sk,ih,Ef,Ef,Ef];grind
theorem V6 {X Y:Nat->Nat->Rat} {a:List (Nat×Rat)} {f:Nat} (h:∀x,x∈a->X x.1 f=Y x.1 f):Ef X a f=Ef Y a f:=by
 induction a with
 | nil=>rfl
 | cons x a ih=>rw[Ef,Ef,ih (λy I=>h y (List.mem_cons_of_mem _ I)),h x (List.mem_cons_self ..)]
theorem Mo (leads:Nat->List (Nat×Rat)) (n:Nat) {k m j:Nat} (J:k<=m) (O:m<=n) (I:n - k<=j):B5 leads n m j=B5 leads n k j:=by
 induction m with
 | zero=>obtain rfl:k=0:=by omega
         rfl
 | succ m ih=>
  by_cases e:k=m+1
  ·rw[e]
  ·rw[B5]
   simp only;rw[if_neg (by omega),ih (by omega) (by omega)]
theorem Pq {n B:Nat} {leads:Nat->List (Nat×Rat)} (h:Good n B leads) {k j:Nat} (hk:n - j<=k) (I:k<=n) (hj:j<n):B5 leads n k j=newRow leads (B5 leads n k) j:=by
 have U:B5 leads n k j=B5 leads n (n - j) j:=Mo leads n hk I (by omega)
 have V:B5 leads n (n - j) j=newRow leads (B5 leads n (n - 1 - j)) j:=by
  have e:n - j=(n - 1 - j)+1:=by omega
  rw[e,B5];simp only;rw[if_pos (by omega)]
 rw[U,V];funext f;rw[newRow,newRow];split
 ·rfl
 ·rename_i hl
  refine V6 λx J=>?_
  obtain⟨b,Z⟩:=(h.head j).resolve_left hl;have O:=h.ord j;rw[Z]at O J;rw[List.tail_cons,List.mem_reverse]at J;obtain⟨_,Y,h4,_⟩:=Dw O.2.2.2 x J;dsimp only at Y;rw[Mo leads n (k:=n - 1 - j) (m:=k) (by omega) I (by omega)]
theorem Kw {n B:Nat} {leads:Nat->List (Nat×Rat)} (h:Good n B leads) {k j:Nat} (O:n - j<=k) (I:k<=n) (J:j<n) (U:leads j=[]) (f:Nat):B5 leads n k j f=if f=j then 1 else 0:=by
 rw[Pq h O I J,newRow,if_pos U]
theorem Xx {n B:Nat} {leads:Nat->List (Nat×Rat)} (h:Good n B leads) {k j:Nat} (O:n - j<=k) (I:k<=n) (J:j<n) (U:leads j≠[]) (f:Nat):B5 leads n k j f=Ef (B5 leads n k) (leads j).tail f:=by
 rw[Pq h O I J,newRow,if_neg U,Qw]
def jM (n:Nat) (leads:Nat->List (Nat×Rat)) (X:Nat->Nat->Rat) (j:Nat):Prop:=
 ∃u,Sp (ldOf leads) (rowOf leads) n u/\∀q,(if q=j then(1:Rat)else 0)=sumQ (λf=>(if ldOf leads f then 0 else X j f)*rowOf leads f q) n+u q
theorem Qp {n B:Nat} {leads:Nat->List (Nat×Rat)} (h:Good n B leads) (X:Nat->Nat->Rat):∀(r:List (Nat×Rat)),(∀x,x∈r->jM n leads X x.1) ->
  ∃u,Sp (ldOf leads) (rowOf leads) n u/\∀q,val r q=sumQ (λf=>(if ldOf leads f then 0 else -Ef X r f)*rowOf leads f q) n+u q
 | [],_=>⟨λ_=>0,Sp.nil _ _ _,λq=>by
   rw[val,A8 (λi _=>?_)]
   ·grind
   ·rw[Ef];split <;> grind⟩
 | x :: r,hr=>by
  obtain⟨u,V,O⟩:=Qp h X r (λy Z=>hr y (List.mem_cons_of_mem _ Z));obtain⟨w,Y,U⟩:=hr x (List.mem_cons_self ..);refine⟨_,V.combine x.2 Y,λq=>?_⟩;have I:(if q=x.1 then x.2 else 0)=x.2*(if q=x.1 then(1:Rat)else 0):=by split <;> grind
  have J:sumQ (λf=>(if ldOf leads f then 0 else -Ef X (x :: r) f)*rowOf leads f q) n=x.2*sumQ (λf=>(if ldOf leads f then 0 else X x.1 f)*rowOf leads f q) n+sumQ (λf=>(if ldOf leads f then 0 else -Ef X r f)*rowOf leads f q) n:=by
   rw[<-Am,<-Ap];refine Ac λf _=>?_
   rw[Ef];split <;> grind
  rw[Be,I,U,O,J];grind
theorem Z2 {n B:Nat} {leads:Nat->List (Nat×Rat)} (h:Good n B leads):∀(m j:Nat),n - j<=m->j<n->∀k,n - j<=k->k<=n->jM n leads (B5 leads n k) j:=by
 intro m;induction m with
 | zero=>intro j h1 h2;omega
 | succ m ih=>
  intro j hm O k Z I;by_cases hl:leads j=[]
  ·refine⟨λ_=>0,Sp.nil _ _ _,λq=>?_⟩
   rw[Bc O (λi _ aX=>?_)]
   ·have U:rowOf leads j q=if q=j then 1 else 0:=by rw[rowOf,Ch hl];rfl
    have V:(if ldOf leads j=true then(0:Rat)else B5 leads n k j j)=1:=by
     rw[Ch hl];show B5 leads n k j j=1;rw[Kw h Z I O hl,if_pos rfl]
    rw[V,U];clear ih;grind
   ·clear ih
    split
    ·grind
    ·rw[Kw h Z I O hl,if_neg aX];grind
  ·obtain⟨b,Y⟩:=(h.head j).resolve_left hl
   have ho:=h.ord j;rw[Y]at ho
   obtain⟨u,hu,eu⟩:=Qp h (B5 leads n k) b (λx hx=>by
    obtain⟨_,h1,h2,_⟩:=Dw ho.2.2.2 x hx;dsimp only at h1;exact ih x.1 (by omega) h2 k (by omega) I)
   have J:=Sp.lead (L:=rowOf leads) O (Dd hl);refine⟨_,J.combine (-1) hu,λq=>?_⟩;have U:rowOf leads j q=(if q=j then 1 else 0)+val b q:=by rw[rowOf,Dd hl,if_pos rfl,Y,Be]
   have V:sumQ (λf=>(if ldOf leads f then 0 else B5 leads n k j f)*rowOf leads f q) n=-sumQ (λf=>(if ldOf leads f then 0 else -Ef (B5 leads n k) b f)*rowOf leads f q) n:=by
    have e3:-sumQ (λf=>(if ldOf leads f then 0 else -Ef (B5 leads n k) b f)*rowOf leads f q) n=-1*sumQ (λf=>(if ldOf leads f then 0 else -Ef (B5 leads n k) b f)*rowOf leads f q) n:=by grind
    rw[e3,<-Am];refine Ac λf _=>?_
    rw[Xx h Z I O hl,Y,List.tail_cons];split <;> grind
   rw[U,V,eu];grind
theorem Pr {n B:Nat} {leads:Nat->List (Nat×Rat)} (hB:1<=B) (h:Good n B leads) {k j f:Nat} (hk:n - j<=k) (I:k<=n) (hj:j<n) (O:f<n) (hl:leads f=[]):hq (B5 leads n k j f)<=top n B:=by
 obtain⟨R,hi⟩:=h.inv;obtain⟨u,hu,V⟩:=Z2 h n j (by omega) hj k hk I;obtain⟨m,N,U,J,Z,Y⟩:=hi.coords (λq=>if q=j then 1 else 0) (λq=>by split <;> simp <;> omega) n (B5 leads n k j) u hu (λq=>by rw[<-V];split <;> rfl);rw[D7 U (Y f O (Ch hl))];exact Dt U (Gm (nR _) (Z f O)) (Gm (nR _) J)
theorem Qx {X:Nat->Nat->Rat} {K:Nat} {f:Nat}:∀(r:List (Nat×Rat)),(∀x,x∈r->hq x.2<=K)->(∀x,x∈r->hq (X x.1 f)<=K)->hq (Ef X r f)<=1+r.length*(2*K+1)
 | [],_,_=>by rw[Ef,N8];omega
 | x :: r,h1,h2=>by
  have O:=Qx r (λy I=>h1 y (List.mem_cons_of_mem _ I)) (λy I=>h2 y (List.mem_cons_of_mem _ I));have U:=h1 x (List.mem_cons_self ..);have V:=h2 x (List.mem_cons_self ..);have Y:=N5 (Ef X r f) (-x.2*X x.1 f);have J:=B7 (-x.2) (X x.1 f);rw[N7]at J;rw[Ef,List.length_cons,Nat.succ_mul];omega
theorem D6 {n:Nat}:∀{t:Nat} {r:List (Nat×Rat)},Ord n t r->r.length<=n - t
 | _,[],_=>Nat.zero_le _
 | _,x :: r,h=>by
  have I:=D6 h.2.2.2;have J:=h.1;have O:=h.2.1;rw[List.length_cons];omega
theorem Om {n B:Nat} (hn:n<=72) (hB:B<=16777216):top n B<=80:=by
 have I:cap n B<=cap 72 16777216:=by
  refine nS (Kr hn) (Nat.pow_le_pow_left ?_ 72);have:=Nat.mul_le_mul_left (2*(72+1)) hB;omega
 have J:(n+1)*(B*cap n B)+cap n B<=(72+1)*(16777216*cap 72 16777216)+cap 72 16777216:=
  Nat.add_le_add (Nat.mul_le_mul (by omega) (Nat.mul_le_mul hB I)) I
 exact Bj.2 (Nat.lt_of_le_of_lt J (by decide +kernel))
def frs (leads:Nat->List (Nat×Rat)) (n:Nat):List Nat:=(List.range n).filter (λj=>(leads j).isEmpty)
theorem Dm (leads:Nat->List (Nat×Rat)) (n:Nat):frs leads (n+1)=if leads n=[]then frs leads n++[n]else frs leads n:=by
 rw[frs,List.range_succ,List.filter_append];by_cases h:leads n=[]
 ·rw[if_pos h,List.filter_cons,h];rfl
 ·rw[if_neg h,List.filter_cons]
  have:(leads n).isEmpty=false:=by cases e:leads n with
   | nil=>exact absurd e h
   | cons x r=>rfl
  rw[this];exact List.append_nil _
theorem Ht {leads:Nat->List (Nat×Rat)} {n j:Nat}:j∈frs leads n↔j<n/\leads j=[]:=by
 rw[frs,List.mem_filter,List.mem_range,List.isEmpty_iff]
theorem E8 (leads:Nat->List (Nat×Rat)) (n:Nat):(frs leads n).length<=n:=by
 have:=List.length_filter_le (λj=>(leads j).isEmpty) (List.range n);rw[List.length_range]at this;exact this
theorem Yh (leads:Nat->List (Nat×Rat)) {j n:Nat} (h:j<=n):∃l,frs leads n=frs leads j++l:=by
 induction n with
 | zero=>obtain rfl:j=0:=by omega
         exact⟨[],(List.append_nil _).symm⟩
 | succ n ih=>
  by_cases e:j=n+1
  ·subst e;exact⟨[],(List.append_nil _).symm⟩
  ·obtain⟨l,I⟩:=ih (by omega)
   rw[Dm,I];split
   ·exact⟨l++[n],by rw[List.append_assoc]⟩
   ·exact⟨l,rfl⟩
theorem Yg (leads:Nat->List (Nat×Rat)) {j n:Nat} (h:j<n) (I:leads j=[]):(frs leads j).length<(frs leads n).length/\(frs leads n)[(frs leads j).length]?=some j:=by
 obtain⟨l,e⟩:=Yh leads (j:=j+1) (n:=n) h;rw[Dm,if_pos I]at e;constructor
 ·rw[e];simp
 ·rw[e];simp
theorem Hu (leads:Nat->List (Nat×Rat)) (n:Nat):(frs leads n).Pairwise (· < ·):=by
 rw[frs];exact List.Pairwise.filter _ List.pairwise_lt_range
end Eli
end Go.Proofs.YtenlbhlllgppmaaGreatDoor
namespace Go.Proofs.YtenlbhlllgppmaaGreatDoor
open Tryz
open Go.RowKit
theorem I7 {P:Program} {W:World} {cB:Array Oper} {o:Oper} {a:Act} {K':Act->World->Prop} {Q:Exit->Act->World->Prop} {E':Prop} (K:Value->Prop) (cG:o.guard=none) (s x:Operand) (t E:TypeId)
  (ho:o.op=.call { callee:=.builtin .append,args:=#[s,x],argTypes:=#[t,t] }) {z:Value} {V J:Nat} (hU:P.underlying t=some (.slice E))
  (Y:(P.info? E).map (λi=>(i.zero,i.size,i.bytes))=some (some z,V,J)) (cA:z.cells.size=V) (bB:0<V) (B n:Nat) (v:Value) (xs I:List Value)
  (hs:a.eval s=v) (bA:OwnK K W B E V v n xs) (hx:a.eval x=.slice (some ⟨W.heap.size,0,none⟩) 1 1) (hn:I.length=V) (h1:∀u∈I,u.oneCell'=true)
  (hb:(n+1)*J<=140737488355328) (hm:n+1<=9223372036854775807) (hB:B<=W.heap.size) (cD:∀u∈I,K u) (cF:∀u∈z.cells.toList,K u)
  (h:∀Z w',OwnK K w' B E V Z (n+1) (xs++I)->W.grownBy w' v.ownBlock->(Z.ownBlock=v.ownBlock∨Z.ownBlock=some (W.heap.size+1))->K' (a.put o.dst Z) w'):
  if Region.wanted o (yielded cB a.tmps)=true then Oper.wp P o a (W.alloc (.cells I.toArray E)) K' Q else E':=by
 have hw:Region.wanted o (yielded cB a.tmps)=true:=by simp[Region.wanted,cG]
 rw[if_pos hw];obtain⟨i0,hi,bC,bE,bY⟩:=info_parts Y
 have U:∀(j:Nat) (u:Value),I[j]?=some u->(W.alloc (.cells I.toArray E)).cell? ((⟨W.heap.size,0,none⟩:Addr).add j)=some u:=by
  intro j u hu;have hc:=(Blk.new W E I.toArray).cell_ j
  have e:(⟨W.heap.size,0,none⟩:Addr).add j=⟨W.heap.size,j,none⟩:=by
   unfold Addr.add;split
   ·rename_i h0;rw[h0]
   ·simp
  rw[e,hc]
  simpa using hu
 have O:OwnK K (W.alloc (.cells I.toArray E)) B E V v n xs:=bA.keep ((Below.refl _ _).alloc (nR _) _);obtain⟨Z,w',hr,g1,g2,_,g3⟩:=run_append_own_at (P:=P) (W.alloc (.cells I.toArray E)) B t o.type E i0 z V J hU hi bC bE bY cA bB v n xs O.1 ⟨W.heap.size,0,none⟩ 1 1 I (by omega) U h1 hm hb (by simp;omega);have g4:=E7 K (W.alloc (.cells I.toArray E)) B t o.type E i0 z V J hU hi bC bE bY cA bB v n xs O.1 ⟨W.heap.size,0,none⟩ 1 1 I (by omega) U h1 hm hb (by omega) O.2 cD cF hr;unfold Oper.wp execOp;simp only[ho,resolve,invoke,builtin,Sem.run_bind,Sem.run_pure,Result.andThen_ok,List.map_toArray,List.map_cons,List.map_nil,hs,hx,hr];refine h Z w' ⟨g1,g4⟩ (D4 g2) ?_;rcases g3 with g3|g3
 ·exact .inl g3
 ·exact .inr (by rw[g3];simp)
theorem I32.putU {w:World} {R:Nat} (O:Stk NotU32 w R) (i:Nat) (u:Value):I32 w (w.setCell ⟨R,i,none⟩ u):=
 ⟨by simp,λg j n e=>by
  have I:R≠g:=λJ=>O.2 j _ (by rw[J];exact e) _ rfl
  rw[World.cell?_setCell_far w ⟨R,i,none⟩ ⟨g,j,none⟩ u I];exact e⟩
theorem Stk.putU {K:Value->Prop} {w:World} {R:Nat} (h:Stk K w R) (p:Addr) (u:Value) (J:K u):Stk K (w.setCell p u) R:=by
 refine⟨by simpa using h.1,λi v I=>?_⟩;by_cases hp:p=⟨R,i,none⟩
 ·cases hc:w.cell? p with
  | none=>
   have:((w.setCell p u).cell? p)=none:=Fo u hc;rw[<-hp,this]at I;cases I
  | some y=>
   rw[<-hp,World.cell?_setCell_same' _ _ _ (by rw[hc];rfl)]at I;injection I with I
   rw[<-I];exact J
 ·rw[World.cell?_setCell_other _ _ _ _ hp]at I
  exact h.2 i v I
def TE (x:Nat×Rat) (w:World) (g i:Nat):Prop:=w.cell? ⟨g,i,none⟩=some (.int .i64 (x.1:Int))/\QE (IsQ x.2) w g (i+1)
theorem TE.keep {x:Nat×Rat} {w w':World} {g i:Nat} (h:TE x w g i) (I:Below w.heap.size w w'):TE x w' g i:=
 ⟨(I.cell (p:=⟨g,i,none⟩) (World.block_lt_of_cell? w ⟨g,i,none⟩ h.1)).trans h.1,h.2.keep (IsQ.solid _) I⟩
theorem TE.next {x:Nat×Rat} {B:Nat} {w w':World} {g i:Nat} (h:TE x w g i) (hg:g<B) (J:I32 w w') (hb:Below B w w'):TE x w' g i:=by
 have I:∀j v,w.cell? ⟨g,j,none⟩=some v->w'.cell? ⟨g,j,none⟩=some v:=λj v e=>(hb.cell (p:=⟨g,j,none⟩) hg).trans e
 obtain⟨e,s,p,n,c,t,q,m,d,O,U,V,Y,Z⟩:=h;exact⟨I _ _ e,s,p,n,c,t,q,m,d,I _ _ O,I _ _ U,I _ _ V,I _ _ Y,Z.i32 J⟩
def TL (l:List (Nat×Rat)) (w:World) (B:Nat) (v:Value):Prop:=
 (l=[]/\∃a c,v=.slice a 0 c)∨∃g o cap,v=.slice (some ⟨g,o,none⟩) l.length cap/\l.length<=cap/\cap<=9223372036854775807/\g<B/\∀j x,l[j]?=some x->TE x w g (o+j*5)
theorem TL.next {l:List (Nat×Rat)} {w w':World} {B:Nat} {v:Value} (h:TL l w B v) (I:I32 w w') (O:Below B w w'):TL l w' B v:=by
 rcases h with h |⟨g,o,cap,e,U,J,hg,V⟩
 ·exact .inl h
 ·exact .inr ⟨g,o,cap,e,U,J,hg,λj x Y=>(V j x Y).next hg I O⟩
theorem TL.keep {l:List (Nat×Rat)} {w w':World} {B:Nat} {v:Value} (h:TL l w B v) (hB:B<=w.heap.size) (I:Below w.heap.size w w'):TL l w' B v:=h.next (I32.below I) (I.mono hB)
theorem TL.up {l:List (Nat×Rat)} {w:World} {B B':Nat} {v:Value} (h:TL l w B v) (hB:B<=B'):TL l w B' v:=by
 rcases h with h |⟨g,o,cap,e,J,I,hg,O⟩
 ·exact .inl h
 ·exact .inr ⟨g,o,cap,e,J,I,by omega,O⟩
theorem TL.cons {x:Nat×Rat} {l:List (Nat×Rat)} {w:World} {B:Nat} {v:Value} (h:TL (x :: l) w B v):
  ∃g o cap,v=.slice (some ⟨g,o,none⟩) (l.length+1) (cap+1)/\l.length<=cap/\cap<9223372036854775807/\g<B/\TE x w g o/\TL l w B (.slice (some ⟨g,o+5,none⟩) l.length cap):=by
 rcases h with⟨h,_⟩ |⟨g,o,cap,e,O,U,hg,J⟩
 ·cases h
 ·rw[List.length_cons]at e O
  obtain⟨c,rfl⟩:∃c,cap=c+1:=⟨cap - 1,by omega⟩
  refine⟨g,o,c,e,by omega,by omega,hg,by simpa using J 0 x rfl,.inr ⟨g,o+5,c,rfl,by omega,by omega,hg,λj y V=>?_⟩⟩;have I:=J (j+1) y V;rw[show o+(j+1)*5=o+5+j*5 by omega]at I;exact I
theorem TL.nil {w:World} {B:Nat} {v:Value} (h:TL [] w B v):∃a c,v=.slice a 0 c:=by
 rcases h with⟨_,h⟩ |⟨g,o,cap,e,_⟩
 ·exact h
 ·exact⟨_,_,e⟩
theorem TL.cut {l:List (Nat×Rat)} {w:World} {B:Nat} {a:Option Addr} {cap:Nat} (X:Option Addr) (h:TL l w B (.slice a l.length cap)) (J:l.length<=cap):TL l w B (.slice (if cap=0 then X else a) l.length cap):=by
 by_cases h0:cap=0
 ·rw[if_pos h0]
  have I:l=[]:=List.eq_nil_of_length_eq_zero (by omega);subst I;exact .inl ⟨rfl,_,_,rfl⟩
 ·rw[if_neg h0];exact h
def TX (x:Nat×Rat) (w:World) (xs:List Value) (i:Nat):Prop:=xs[i]?=some (.int .i64 (x.1:Int))/\QX (IsQ x.2) w xs (i+1)
def OwnT (l:List (Nat×Rat)) (w:World) (B:Nat) (v:Value):Prop:=∃xs,OwnK NotU32 w B 110 5 v l.length xs/\∀j x,l[j]?=some x->TX x w xs (j*5)
theorem OwnT.nil (w:World) (B:Nat):OwnT [] w B (.slice none 0 0):=⟨[],OwnK.nil _ _ _ _ _,λj x I=>by simp at I⟩
theorem OwnT.keep {l:List (Nat×Rat)} {w w':World} {B:Nat} {v:Value} (h:OwnT l w B v) (J:Below w.heap.size w w'):OwnT l w' B v:=by
 obtain⟨V,U,I⟩:=h;exact⟨V,U.keep J,λj x O=>⟨(I j x O).1,(I j x O).2.i32 (IsQ.solid _) (I32.below J)⟩⟩
theorem O0 {J O:List Value} {j:Nat} {v:Value} (e:J[j]?=some v):(J++O)[j]?=some v:=by
 rw[List.getElem?_append_left]
 ·exact e
 ·rcases Nat.lt_or_ge j J.length with hlt|I
  ·exact hlt
  ·rw[List.getElem?_eq_none I]at e;cases e
theorem OwnT.push {l:List (Nat×Rat)} {W w':World} {B:Nat} {v Z:Value} {U:List Value} (Y:OwnK NotU32 W B 110 5 v l.length U) (h2:∀j x,l[j]?=some x->TX x W U (j*5))
  (a:Nat) (r:Rat) {s t:Bool} {p q:Option Addr} {k c m d:Nat} (hq:Qs W s p k c t q m d r) (h3:OwnK NotU32 w' B 110 5 Z (l.length+1) (U++[.int .i64 (a:Int),.bool s,.slice p k c,.bool t,.slice q m d])) (hg:W.grownBy w' v.ownBlock):OwnT (l++[(a,r)]) w' B Z:=by
 have J:=I32.grown (K:=NotU32) (λx=>Fg x) Y.2 hg;have O:U.length=l.length*5:=Y.1.1;refine⟨_,by rw[List.length_append];exact h3,λj x I=>?_⟩;by_cases hj:j<l.length
 ·rw[List.getElem?_append_left hj]at I
  obtain⟨e0,e1⟩:=h2 j x I;exact⟨O0 e0,(e1.i32 (IsQ.solid _) J).app⟩
 ·rw[List.getElem?_append_right (by omega)]at I
  have V:j=l.length:=by
   rcases Nat.eq_zero_or_pos (j - l.length)with h|h
   ·omega
   ·rw[List.getElem?_eq_none (by rw[List.length_singleton];omega)]at I;cases I
  subst V;rw[Nat.sub_self]at I;injection I with I
  subst I;refine⟨?_,s,p,k,c,t,q,m,d,?_,?_,?_,?_,hq.i32 J⟩
  ·rw[List.getElem?_append_right (by omega),O,show l.length*5 - l.length*5=0 by omega];rfl
  ·rw[List.getElem?_append_right (by omega),O,show l.length*5+1 - l.length*5=1 by omega];rfl
  ·rw[List.getElem?_append_right (by omega),O,show l.length*5+1+1 - l.length*5=2 by omega];rfl
  ·rw[List.getElem?_append_right (by omega),O,show l.length*5+1+2 - l.length*5=3 by omega];rfl
  ·rw[List.getElem?_append_right (by omega),O,show l.length*5+1+3 - l.length*5=4 by omega];rfl
structure TRow (l:List (Nat×Rat)) (w:World) (g:Nat):Prop where
 stk:Stk NotU32 w g
 free:∀i,i<l.length*5->w.frozen? ⟨g,i,none⟩=false
 has:∀i,i<l.length*5->(w.cell? ⟨g,i,none⟩).isSome=true
 val:∀j x,l[j]?=some x->TE x w g (j*5)
theorem OwnT.row {l:List (Nat×Rat)} {w:World} {B:Nat} {v:Value} (h:OwnT l w B v):(l=[]/\v=.slice none 0 0)∨∃g cap,v=.slice (some ⟨g,0,none⟩) l.length cap/\l.length<=cap/\cap<=9223372036854775807/\B<=g/\g<w.heap.size/\TRow l w g:=by
 obtain⟨V,I,h2⟩:=h;rcases I.1.2 with⟨J,Z⟩ |⟨g,cap,cs,J,hB,hg,hn,O,cA,_⟩
 ·exact .inl ⟨List.eq_nil_of_length_eq_zero Z,J⟩
 ·right
  have hl:V.length=l.length*5:=I.1.1;have U:=I.2 g (by rw[J];rfl);subst J;refine⟨g,cap,rfl,hn,by simp only[maxLen]at O;omega,hB,U.1,⟨U,λi _=>?_,λi hi=>?_,λj x hx=>?_⟩⟩
  ·exact Blk.free_ hg i
  ·rw[An I.1 (List.getElem?_eq_getElem (by omega:i<V.length))];rfl
  ·obtain⟨Y,s,p,n,c,t,q,m,d,f0,f1,f2,f3,f4⟩:=h2 j x hx
   exact⟨An I.1 Y,s,p,n,c,t,q,m,d,An I.1 f0,An I.1 f1,An I.1 f2,An I.1 f3,f4⟩
theorem OwnT.tl {l:List (Nat×Rat)} {w:World} {B:Nat} {v:Value} (h:OwnT l w B v):TL l w w.heap.size v:=by
 rcases h.row with⟨rfl,rfl⟩ |⟨g,cap,rfl,I,J,_,O,U⟩
 ·exact .inl ⟨rfl,_,_,rfl⟩
 ·exact .inr ⟨g,0,cap,rfl,I,J,O,λj x V=>by rw[Nat.zero_add];exact U.val j x V⟩
theorem E5:(prog.info? 110).map (λi=>(i.zero,i.size,i.bytes))=some (some (.agg #[.int .i64 0,.bool false,.slice none 0 0,.bool false,.slice none 0 0]),5,72):=by kernel_rfl
theorem Vn (a:Int) (s:Bool) (p:Option Addr) (n c:Nat) (t:Bool) (q:Option Addr) (m d:Nat):∀u∈[Value.int .i64 a,.bool s,.slice p n c,.bool t,.slice q m d],u.oneCell'=true:=by
 intro u I;simp at I;rcases I with rfl|rfl|rfl|rfl|rfl <;> rfl
theorem jA (a:Int) (s:Bool) (p:Option Addr) (n c:Nat) (t:Bool) (q:Option Addr) (m d:Nat):∀u∈[Value.int .i64 a,.bool s,.slice p n c,.bool t,.slice q m d],NotU32 u:=by
 intro u I;simp at I;rcases I with rfl|rfl|rfl|rfl|rfl <;> exact λ_ h=>by cases h
theorem Vm:∀u∈(Value.agg #[.int .i64 0,.bool false,.slice none 0 0,.bool false,.slice none 0 0]).cells.toList,NotU32 u:=by
 intro u I;simp[Value.cells]at I;rcases I with rfl|rfl|rfl|rfl|rfl <;> exact λ_ h=>by cases h
end Go.Proofs.YtenlbhlllgppmaaGreatDoor
