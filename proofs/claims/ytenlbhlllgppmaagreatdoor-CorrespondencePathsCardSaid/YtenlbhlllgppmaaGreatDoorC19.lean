/- Elimination over the rationals: rows with leading entries 1, what they span, and how large the entries of a reduced row are. No program in sight. -/
import Derived.Test.YtenlbhlllgppmaaGreatDoorC18
namespace Go.Proofs.YtenlbhlllgppmaaGreatDoor
open Tryz
namespace Eli
open Tryz
open Sie
theorem Ac {f g:Nat->Rat} {n:Nat} (h:∀i,i<n->f i=g i):sumQ f n=sumQ g n:=by
 induction n with
 | zero=>rfl
 | succ n ih=>rw[sumQ,sumQ,ih (λi E=>h i (by omega)),h n (nO _)]
theorem As (f g:Nat->Rat) (n:Nat):sumQ (λi=>f i+g i) n=sumQ f n+sumQ g n:=by
 induction n with
 | zero=>rw[sumQ,sumQ,sumQ];grind
 | succ n ih=>rw[sumQ,sumQ,sumQ,ih];grind
theorem Am (c:Rat) (f:Nat->Rat) (n:Nat):sumQ (λi=>c*f i) n=c*sumQ f n:=by
 induction n with
 | zero=>rw[sumQ,sumQ];grind
 | succ n ih=>rw[sumQ,sumQ,ih];grind
theorem A7 {f:Nat->Rat} {n:Nat} (h:∀i,i<n->f i=0):sumQ f n=0:=by
 induction n with
 | zero=>rfl
 | succ n ih=>rw[sumQ,ih (λi E=>h i (by omega)),h n (nO _)];grind
theorem A6 {f:Nat->Rat} {n j:Nat} (I:j<n) (h:∀i,i<n->i≠j->f i=0):sumQ f n=f j:=by
 induction n with
 | zero=>omega
 | succ n ih=>
  rw[sumQ];by_cases e:j=n
  ·subst e
   rw[A7 (λi E=>h i (by omega) (by omega))];grind
  ·rw[ih (by omega) (λi E=>h i (by omega)),h n (by omega) (by omega)];grind
theorem Im {f:Nat->Rat} {t n:Nat} (J:t<=n) (h:∀i,t<=i->i<n->f i=0):sumQ f n=sumQ f t:=by
 induction n with
 | zero=>obtain rfl:t=0:=by omega
         rfl
 | succ n ih=>
  by_cases e:t=n+1
  ·rw[e]
  ·rw[sumQ,ih (by omega) (λi E I=>h i E (by omega)),h n (by omega) (by omega)];grind
theorem Zz (f:Nat->Int) (n:Nat):((sum f n:Int):Rat)=sumQ (λi=>(f i:Rat)) n:=by
 induction n with
 | zero=>rfl
 | succ n ih=>rw[sum,sumQ,<-ih,Rat.intCast_add]
def Sp (ld:Nat->Bool) (L:Nat->Nat->Rat) (t:Nat) (u:Nat->Rat):Prop:=
 ∃z:Nat->Rat,(∀j,j<t->ld j=false->z j=0)/\∀q,u q=sumQ (λj=>z j*L j q) t
theorem Sp.nil (ld:Nat->Bool) (L:Nat->Nat->Rat) (t:Nat):Sp ld L t (λ_=>0):=
 ⟨λ_=>0,λ_ _ _=>rfl,λq=>(A7 (λi _=>by grind)).symm⟩
theorem Sp.combine {ld:Nat->Bool} {L:Nat->Nat->Rat} {t:Nat} {u v:Nat->Rat} (O:Sp ld L t u) (c:Rat) (U:Sp ld L t v):Sp ld L t (λq=>u q+c*v q):=by
 obtain⟨y,V,J⟩:=O;obtain⟨z,Z,M⟩:=U;refine⟨λj=>y j+c*z j,λj E I=>by simp only[V j E I,Z j E I];grind,λq=>?_⟩;dsimp only;rw[J,M,<-Am,<-As];exact Ac λi _=>by grind
theorem Sp.mono {ld:Nat->Bool} {L:Nat->Nat->Rat} {t E:Nat} {u:Nat->Rat} (U:Sp ld L t u) (h:t<=E):Sp ld L E u:=by
 obtain⟨y,V,I⟩:=U;refine⟨λj=>if j<t then y j else 0,λj Z O=>?_,λq=>?_⟩
 ·by_cases e:j<t
  ·simp only[if_pos e,V j e O]
  ·simp only[if_neg e]
 ·rw[I,Im h (λi J _=>by simp only[if_neg (Nat.not_lt.2 J)];grind)]
  exact Ac λi M=>by simp only[if_pos M]
theorem Sp.lead {ld:Nat->Bool} {L:Nat->Nat->Rat} {t j:Nat} (I:j<t) (J:ld j=true):Sp ld L t (L j):=by
 refine⟨λi=>if i=j then 1 else 0,λi M hn=>?_,λq=>?_⟩
 ·have:i≠j:=λe=>by rw[e,J]at hn;cases hn
  simp only[if_neg this]
 ·rw[A6 I (λi _ E=>by simp only[if_neg E];grind)]
  simp
theorem Sp.congr {ld:Nat->Bool} {L:Nat->Nat->Rat} {t:Nat} {u v:Nat->Rat} (I:Sp ld L t u) (h:∀q,v q=u q):Sp ld L t v:=by
 obtain⟨y,J,E⟩:=I;exact⟨y,J,λq=>by rw[h,E]⟩
structure Inv (B:Nat) (ld:Nat->Bool) (L:Nat->Nat->Rat) (R:Nat->Nat->Int):Prop where
 low:∀j q,q<j->L j q=0
 one:∀j,L j j=1
 free:∀j,ld j=false->∀q,L j q=if q=j then 1 else 0
 rfree:∀j,ld j=false->∀q,R j q=if q=j then 1 else 0
 got:∀p,ld p=true->∃s:Rat,s≠0/\∃u,Sp ld L p u/\∀q,(R p q:Rat)=s*L p q+u q
 bound:∀p q,(R p q).natAbs<=B
variable {B:Nat} {ld:Nat->Bool} {L:Nat->Nat->Rat} {R:Nat->Nat->Int}
theorem Inv.tri (h:Inv B ld L R) {z:Nat->Rat} {t:Nat} (U:∀q,q<t->sumQ (λj=>z j*L j q) t=0):∀j,j<t->z j=0:=by
 intro j;induction j using Nat.strongRecOn with
 | ind j ih=>
  intro E;have I:=U j E;rw[A6 E (λi M O=>?_),h.one]at I
  ·grind
  ·rcases Nat.lt_or_ge i j with hlt|J
   ·rw[ih i hlt M];grind
   ·rw[h.low i j (by omega)];grind
theorem Inv.row (h:Inv B ld L R) (p:Nat):∃s:Rat,s≠0/\∃u,Sp ld L p u/\∀q,(R p q:Rat)=s*L p q+u q:=by
 cases hl:ld p with
 | true=>exact h.got p hl
 | false=>
  refine⟨1,by grind,λ_=>0,Sp.nil _ _ _,λq=>?_⟩;rw[h.rfree p hl,h.free p hl];by_cases e:q=p
  ·simp only[if_pos e];grind
  ·simp only[if_neg e];grind
theorem Inv.comb (h:Inv B ld L R) (m:Nat->Rat) (t:Nat):∃z:Nat->Rat,∀q,sumQ (λp=>m p*(R p q:Rat)) t=sumQ (λj=>z j*L j q) t:=by
 induction t with
 | zero=>exact⟨λ_=>0,λq=>rfl⟩
 | succ t ih=>
  obtain⟨z,J⟩:=ih;obtain⟨s,_,u,⟨y,_,I⟩,hr⟩:=h.row t;refine⟨λj=>if j=t then m t*s else z j+m t*y j,λq=>?_⟩;dsimp only;rw[sumQ,sumQ,J,hr,I,if_pos rfl]
  have E:sumQ (λj=>(if j=t then m t*s else z j+m t*y j)*L j q) t=sumQ (λj=>z j*L j q) t+m t*sumQ (λj=>y j*L j q) t:=by
   rw[<-Am,<-As];exact Ac λi M=>by rw[if_neg (by omega)];grind
  rw[E];grind
theorem Inv.nonsing (h:Inv B ld L R):∀(t:Nat) (m:Nat->Rat),(∀q,q<t->sumQ (λp=>m p*(R p q:Rat)) t=0)->∀p,p<t->m p=0:=by
 intro t;induction t with
 | zero=>intro m _ p hp;omega
 | succ t ih=>
  intro m O;obtain⟨z,hz⟩:=h.comb m t;obtain⟨s,hs,u,⟨y,_,V⟩,hr⟩:=h.row t
  have Z:∀q,q<t+1->sumQ (λj=>(if j=t then m t*s else z j+m t*y j)*L j q) (t+1)=0:=λq hq=>by
   have E:=O q hq;rw[sumQ,hz,hr,V]at E;rw[sumQ,if_pos rfl]
   have U:sumQ (λj=>(if j=t then m t*s else z j+m t*y j)*L j q) t=sumQ (λj=>z j*L j q) t+m t*sumQ (λj=>y j*L j q) t:=by
    rw[<-Am,<-As];exact Ac λi hi=>by rw[if_neg (by omega)];grind
   rw[U];grind
  have J:=h.tri Z t (nO _);rw[if_pos rfl]at J
  have M:m t=0:=by
   rcases Rat.mul_eq_zero.1 J with I|I
   ·exact I
   ·exact absurd I hs
  intro p hp;by_cases e:p=t
  ·rw[e];exact M
  ·refine ih m (λq hq=>?_) p (by omega)
   have E:=O q (by omega);rw[sumQ,M]at E;grind
theorem Inv.small (h:Inv B ld L R) (v:Nat->Int) (hv:∀q,(v q).natAbs<=B) (t:Nat):
  ∃(m:Int) (k:Nat->Int) (N:Nat->Int),m≠0/\m.natAbs<=cap t B/\(∀p,p<t->(k p).natAbs<=cap t B)/\(∀q,(N q).natAbs<=(t+1)*(B*cap t B)) /\
   (∀q,q<t->N q=0)/\∀q,(N q:Rat)=sumQ (λp=>(k p:Rat)*(R p q:Rat)) t+(m:Rat)*(v q:Rat):=by
 obtain⟨x,⟨i0,bB,E⟩,U,he⟩:=Sie.small t B (λq i=>if i<t then R i q else v q) (λq i _ _=>by
  split
  ·exact h.bound i q
  ·exact hv q)
 have Z:∀q,((sum (λi=>(if i<t then R i q else v q)*x i) (t+1):Int):Rat)=sumQ (λp=>(x p:Rat)*(R p q:Rat)) t+(x t:Rat)*(v q:Rat):=λq=>by
  rw[Zz,sumQ,if_neg (Nat.lt_irrefl t),Rat.intCast_mul]
  have e1:sumQ (λi=>(((if i<t then R i q else v q)*x i:Int):Rat)) t=sumQ (λp=>(x p:Rat)*(R p q:Rat)) t:=
   Ac λi O=>by rw[if_pos O,Rat.intCast_mul];grind
  rw[e1];grind
 refine⟨x t,x,λq=>sum (λi=>(if i<t then R i q else v q)*x i) (t+1),?_,U t (nO _),λp hp=>U p (by omega),λq=>?_,λq hq=>he q hq,Z⟩
 ·intro V
  have M:∀q,q<t->sumQ (λp=>(x p:Rat)*(R p q:Rat)) t=0:=λq hq=>by
   have I:=Z q;rw[he q hq,V]at I;have J:((0:Int):Rat)=0:=rfl;rw[J]at I;grind
  have I:=h.nonsing t (λp=>(x p:Rat)) M;by_cases e:i0=t
  ·rw[e]at E;exact E V
  ·have J:=I i0 (by omega)
   exact E (by exact_mod_cast J)
 ·have M:∀i,i<t+1->-((B*cap t B:Nat):Int)<=(if i<t then R i q else v q)*x i/\(if i<t then R i q else v q)*x i<=((B*cap t B:Nat):Int):=λi O=>by
   have I:((if i<t then R i q else v q)*x i).natAbs<=B*cap t B:=by
    rw[Int.natAbs_mul];refine Nat.mul_le_mul ?_ (U i O);split
    ·exact h.bound i q
    ·exact hv q
   omega
  have J:=Mi M;have h4:((t+1:Nat):Int)*((B*cap t B:Nat):Int)=(((t+1)*(B*cap t B):Nat):Int):=by rw[<-Int.natCast_mul]
  rw[h4]at J;show(sum (λi=>(if i<t then R i q else v q)*x i) (t+1)).natAbs<=(t+1)*(B*cap t B);omega
theorem Inv.height (h:Inv B ld L R) (v:Nat->Int) (hv:∀q,(v q).natAbs<=B) (r:Nat->Rat) (t:Nat) (u:Nat->Rat) (hu:Sp ld L t u) (he:∀q,(v q:Rat)=r q+u q) (Z:∀q,q<t->r q=0):
  ∃(m:Int) (N:Nat->Int),m≠0/\m.natAbs<=cap t B/\(∀q,(N q).natAbs<=(t+1)*(B*cap t B))/\∀q,(m:Rat)*r q=(N q:Rat):=by
 obtain⟨m,k,N,hm,J,_,I,E,hN⟩:=h.small v hv t;refine⟨m,N,hm,J,I,?_⟩;obtain⟨z,hz⟩:=h.comb (λp=>(k p:Rat)) t;obtain⟨y,_,V⟩:=hu
 have M:∀q,(N q:Rat) - (m:Rat)*r q=sumQ (λj=>(z j+(m:Rat)*y j)*L j q) t:=λq=>by
  have U:sumQ (λj=>(z j+(m:Rat)*y j)*L j q) t=sumQ (λj=>z j*L j q) t+(m:Rat)*sumQ (λj=>y j*L j q) t:=by
   rw[<-Am,<-As];exact Ac λi O=>by grind
  rw[U,hN,hz,he,V];grind
 have h1:=h.tri (λq hq=>by
  rw[<-M,Z q hq,E q hq];have:((0:Int):Rat)=0:=rfl;rw[this];grind)
 intro q;have h2:=M q;rw[A7 (λi O=>by rw[h1 i O];grind)]at h2;grind
theorem Inv.coords (h:Inv B ld L R) (v:Nat->Int) (hv:∀q,(v q).natAbs<=B) (n:Nat) (x:Nat->Rat) (u:Nat->Rat) (hu:Sp ld L n u)
  (he:∀q,(v q:Rat)=sumQ (λf=>(if ld f then 0 else x f)*L f q) n+u q):
  ∃(m:Int) (N:Nat->Int),m≠0/\m.natAbs<=cap n B/\(∀f,f<n->(N f).natAbs<=cap n B)/\∀f,f<n->ld f=false->(m:Rat)*x f=(N f:Rat):=by
 obtain⟨m,k,N,hm,aN,aK,_,aD,hN⟩:=h.small v hv n;refine⟨m,λf=>-k f,hm,aN,λf I=>by have:=aK f I;show(-k f).natAbs<=_;omega,?_⟩;obtain⟨y,hy,ey⟩:=hu
 have hc:∀t,t<=n->∃z:Nat->Rat,(∀f,f<t->ld f=false->z f=(k f:Rat))/\∀q,sumQ (λp=>(k p:Rat)*(R p q:Rat)) t=sumQ (λj=>z j*L j q) t:=by
  intro t;induction t with
  | zero=>intro _;exact⟨λ_=>0,λf I=>absurd I (Nat.not_lt_zero _),λq=>rfl⟩
  | succ t ih=>
   intro ht;obtain⟨z,O,M⟩:=ih (by omega);cases J:ld t with
   | false=>
    refine⟨λj=>if j=t then(k t:Rat)else z j,λf I E=>?_,λq=>?_⟩
    ·by_cases e:f=t
     ·simp only[e,if_true]
     ·simp only[if_neg e];exact O f (by omega) E
    ·dsimp only
     rw[sumQ,sumQ,M,if_pos rfl,h.free t J,h.rfree t J];have U:sumQ (λj=>(if j=t then(k t:Rat)else z j)*L j q) t=sumQ (λj=>z j*L j q) t:=Ac λi hi=>by rw[if_neg (by omega)]
     rw[U];by_cases e:q=t
     ·simp only[if_pos e];grind
     ·simp only[if_neg e];grind
   | true=>
    obtain⟨s,_,u',⟨y',bA,Z⟩,hr⟩:=h.got t J;refine⟨λj=>if j=t then(k t:Rat)*s else z j+(k t:Rat)*y' j,λf I E=>?_,λq=>?_⟩
    ·have aX:f≠t:=λe=>by rw[e,J]at E;cases E
     simp only[if_neg aX];rw[O f (by omega) E,bA f (by omega) E];grind
    ·dsimp only
     rw[sumQ,sumQ,M,hr,Z,if_pos rfl]
     have U:sumQ (λj=>(if j=t then(k t:Rat)*s else z j+(k t:Rat)*y' j)*L j q) t=sumQ (λj=>z j*L j q) t+(k t:Rat)*sumQ (λj=>y' j*L j q) t:=by
      rw[<-Am,<-As];exact Ac λi hi=>by rw[if_neg (by omega)];grind
     rw[U];grind
 obtain⟨z,O,M⟩:=hc n (nL _)
 have h1:=h.tri (t:=n) (z:=λj=>z j+(m:Rat)*((if ld j then 0 else x j)+y j)) (λq hq=>by
  have e2:sumQ (λj=>(z j+(m:Rat)*((if ld j then 0 else x j)+y j))*L j q) n=sumQ (λj=>z j*L j q) n+(m:Rat)*(sumQ (λf=>(if ld f then 0 else x f)*L f q) n+sumQ (λj=>y j*L j q) n):=by
   rw[<-As,<-Am,<-As];exact Ac λi hi=>by grind
  have V:=hN q;rw[aD q hq,he,ey,M]at V;have:((0:Int):Rat)=0:=rfl;rw[this]at V;rw[e2];exact V.symm)
 intro f I J;have h2:=h1 f I;rw[O f I J,hy f I J,J]at h2;simp only[Bool.false_eq_true,if_false]at h2;rw[Rat.intCast_neg];grind
end Eli
end Go.Proofs.YtenlbhlllgppmaaGreatDoor
namespace Go.Proofs.YtenlbhlllgppmaaGreatDoor
open Tryz
namespace Eli
open Tryz
open Sie
def val:List (Nat×Rat)->Nat->Rat
 | [],_=>0
 | t :: r,q=>(if q=t.1 then t.2 else 0)+val r q
def Ord (n:Nat):Nat->List (Nat×Rat)->Prop
 | _,[]=>True
 | t,x :: r=>t<=x.1/\x.1<n/\x.2≠0/\Ord n (x.1+1) r
theorem Ord.mono {n:Nat}:∀{t s:Nat} {r:List (Nat×Rat)},Ord n t r->s<=t->Ord n s r
 | _,_,[],_,_=>trivial
 | _,_,_ :: _,h,hs=>⟨nM hs h.1,h.2⟩
theorem Jk {n:Nat}:∀{t:Nat} {r:List (Nat×Rat)},Ord n t r->∀q,q<t->val r q=0
 | _,[],_,_,_=>rfl
 | t,x :: r,h,q,hq=>by
  have E:=h.1;rw[val,if_neg (by omega),Jk h.2.2.2 q (by omega)];grind
theorem Dn {n:Nat}:∀{t:Nat} {r:List (Nat×Rat)},Ord n t r->∀x,x∈r->val r x.1=x.2/\t<=x.1/\x.1<n/\x.2≠0
 | _,[],_,_,E=>by cases E
 | t,y :: r,h,x,E=>by
  rcases List.mem_cons.1 E with rfl|E
  ·refine⟨?_,h.1,h.2.1,h.2.2.1⟩
   rw[val,if_pos rfl,Jk h.2.2.2 _ (by omega)];grind
  ·obtain⟨I,O,J,M⟩:=Dn h.2.2.2 x E
   have U:=h.1;refine⟨?_,by omega,J,M⟩;rw[val,if_neg (by omega),I];grind
def aC (c:Rat) (p:Nat) (x:Rat) (more:List (Nat×Rat)->List (Nat×Rat)):List (Nat×Rat)->List (Nat×Rat)
 | []=>(p,x) :: more []
 | y :: b=>if p<y.1 then(p,x) :: more (y :: b)else if y.1<p then(y.1,-(c*y.2)) :: aC c p x more b else if x - c*y.2=0 then more b else(p,x - c*y.2) :: more b
def Gq (c:Rat):List (Nat×Rat)->List (Nat×Rat)->List (Nat×Rat)
 | []=>λb=>b.map (λy=>(y.1,-(c*y.2)))
 | x :: a=>aC c x.1 x.2 (Gq c a)
theorem Sr (c:Rat):Gq c [] []=[]:=rfl
theorem mrg_left (c:Rat) (x:Nat×Rat) (a:List (Nat×Rat)):Gq c (x :: a) []=x :: Gq c a []:=rfl
theorem mrg_right (c:Rat) (y:Nat×Rat) (b:List (Nat×Rat)):Gq c [] (y :: b)=(y.1,-(c*y.2)) :: Gq c [] b:=rfl
theorem Rh (c:Rat) (x y:Nat×Rat) (a b:List (Nat×Rat)) (h:x.1<y.1):Gq c (x :: a) (y :: b)=x :: Gq c a (y :: b):=by
 show aC c x.1 x.2 (Gq c a) (y :: b)=_;rw[aC,if_pos h]
theorem Rg (c:Rat) (x y:Nat×Rat) (a b:List (Nat×Rat)) (h:y.1<x.1):Gq c (x :: a) (y :: b)=(y.1,-(c*y.2)) :: Gq c (x :: a) b:=by
 show aC c x.1 x.2 (Gq c a) (y :: b)=_;rw[aC,if_neg (by omega),if_pos h];rfl
theorem Jb (c:Rat) (x y:Nat×Rat) (a b:List (Nat×Rat)) (h:x.1=y.1) (E:x.2 - c*y.2=0):Gq c (x :: a) (y :: b)=Gq c a b:=by
 show aC c x.1 x.2 (Gq c a) (y :: b)=_;rw[aC,if_neg (by omega),if_neg (by omega),if_pos E]
theorem Nj (c:Rat) (x y:Nat×Rat) (a b:List (Nat×Rat)) (h:x.1=y.1) (E:x.2 - c*y.2≠0):Gq c (x :: a) (y :: b)=(x.1,x.2 - c*y.2) :: Gq c a b:=by
 show aC c x.1 x.2 (Gq c a) (y :: b)=_;rw[aC,if_neg (by omega),if_neg (by omega),if_neg E]
theorem A8 (x:Nat×Rat) (r:List (Nat×Rat)) (q:Nat):val (x :: r) q=(if q=x.1 then x.2 else 0)+val r q:=rfl
theorem Jl (q:Nat):val [] q=0:=rfl
theorem eI (c:Rat) (q:Nat):∀(a b:List (Nat×Rat)),val (Gq c a b) q=val a q - c*val b q:=by
 intro a;induction a with
 | nil=>
  intro b;induction b with
  | nil=>rw[Sr,Jl];grind
  | cons y b ih=>
   rw[mrg_right,A8,ih,A8,Jl];dsimp only;split <;> grind
 | cons x a iha=>
  intro b;induction b with
  | nil=>
   rw[mrg_left,A8,iha,A8,Jl];clear iha;grind
  | cons y b ihb=>
   have E:=iha b;have I:=iha (y :: b);clear iha;rw[A8]at ihb I;rcases Nat.lt_trichotomy x.1 y.1 with h|h|h
   ·rw[Rh c x y a b h,A8,I,A8,A8]
    clear ihb E I;generalize (if q=x.1 then x.2 else 0)=e1;generalize (if q=y.1 then y.2 else 0)=e2;grind
   ·by_cases h0:x.2 - c*y.2=0
    ·rw[Jb c x y a b h h0,E,A8,A8,h]
     clear ihb E I;by_cases e:q=y.1
     ·rw[if_pos e,if_pos e];grind
     ·rw[if_neg e,if_neg e];grind
    ·rw[Nj c x y a b h h0,A8,E,A8,A8,h]
     clear ihb E I;by_cases e:q=y.1
     ·rw[if_pos e,if_pos e];grind
     ·rw[if_neg e,if_neg e];grind
   ·rw[Rg c x y a b h,A8,ihb,A8,A8]
    clear ihb E I;dsimp only;by_cases e:q=y.1
    ·rw[if_pos e,if_neg (by omega),if_pos e];grind
    ·rw[if_neg e,if_neg e];grind
theorem dD {n:Nat} {c:Rat} (U:c≠0):∀(a b:List (Nat×Rat)) (t:Nat),Ord n t a->Ord n t b->Ord n t (Gq c a b):=by
 have J:∀y:Rat,y≠0->-(c*y)≠0:=λy V h=>by
  have O:c*y=0:=by grind
  rcases Rat.mul_eq_zero.1 O with M|M
  ·exact U M
  ·exact V M
 intro a;induction a with
 | nil=>
  intro b;induction b with
  | nil=>intro t _ _;exact trivial
  | cons y b ih=>intro t E I;rw[mrg_right];exact⟨I.1,I.2.1,J _ I.2.2.1,ih _ trivial I.2.2.2⟩
 | cons x a iha=>
  intro b;induction b with
  | nil=>intro t E I;rw[mrg_left];exact⟨E.1,E.2.1,E.2.2.1,iha [] _ E.2.2.2 trivial⟩
  | cons y b ihb=>
   intro t E I;rcases Nat.lt_trichotomy x.1 y.1 with h|h|h
   ·rw[Rh c x y a b h];exact⟨E.1,E.2.1,E.2.2.1,iha _ _ E.2.2.2 ⟨h,I.2⟩⟩
   ·by_cases h0:x.2 - c*y.2=0
    ·rw[Jb c x y a b h h0]
     have O:=E.1;exact(iha b (x.1+1) E.2.2.2 (h▸I.2.2.2)).mono (by omega)
    ·rw[Nj c x y a b h h0]
     exact⟨E.1,E.2.1,h0,iha b (x.1+1) E.2.2.2 (h▸I.2.2.2)⟩
   ·rw[Rg c x y a b h]
    exact⟨I.1,I.2.1,J _ I.2.2.1,ihb (y.1+1) ⟨h,E.2⟩ I.2.2.2⟩
def Qf (f:Nat->Int):Nat->List (Nat×Rat)
 | 0=>[]
 | n+1=>if f n=0 then Qf f n else Qf f n++[(n,(f n:Rat))]
theorem K3 (a b:List (Nat×Rat)) (q:Nat):val (a++b) q=val a q+val b q:=by
 induction a with
 | nil=>rw[List.nil_append,val];grind
 | cons x a ih=>rw[List.cons_append,val,val,ih];grind
theorem Kk {n:Nat} {c:Rat} (hn:0<n) (E:c≠0):∀(a:List (Nat×Rat)) (t:Nat),Ord (n - 1) t a->t<=n - 1->Ord n t (a++[(n - 1,c)])
 | [],t,_,ht=>⟨ht,by dsimp only;omega,E,trivial⟩
 | x :: a,t,h,ht=>⟨h.1,by have:=h.2.1;omega,h.2.2.1,Kk hn E a _ h.2.2.2 (by have:=h.2.1;omega)⟩
theorem Ord.wide {n E:Nat} (hn:n<=E):∀{t:Nat} {r:List (Nat×Rat)},Ord n t r->Ord E t r
 | _,[],_=>trivial
 | _,_ :: _,h=>⟨h.1,by have:=h.2.1;omega,h.2.2.1,Ord.wide hn h.2.2.2⟩
theorem Sx (f:Nat->Int) (n:Nat):Ord n 0 (Qf f n):=by
 induction n with
 | zero=>exact trivial
 | succ n ih=>
  rw[Qf];split
  ·exact ih.wide (Nat.le_succ _)
  ·rename_i h
   exact Kk (n:=n+1) (Nat.succ_pos _) (by intro E;exact h (by exact_mod_cast E)) _ 0 ih (Nat.zero_le _)
theorem eJ (f:Nat->Int) (n q:Nat):val (Qf f n) q=if q<n then(f q:Rat)else 0:=by
 induction n with
 | zero=>rfl
 | succ n ih=>
  rw[Qf];by_cases h:f n=0
  ·rw[if_pos h,ih]
   by_cases h1:q<n
   ·rw[if_pos h1,if_pos (by omega)]
   ·rw[if_neg h1]
    by_cases h2:q=n
    ·rw[if_pos (by omega),h2,h];rfl
    ·rw[if_neg (by omega)]
  ·rw[if_neg h,K3,ih,val,val]
   by_cases h2:q=n
   ·rw[if_neg (by omega),if_pos h2,if_pos (by omega),h2];grind
   ·rw[if_neg h2]
    by_cases h1:q<n
    ·rw[if_pos h1,if_pos (by omega)];grind
    ·rw[if_neg h1,if_neg (by omega)];grind
def Ro (leads:Nat->List (Nat×Rat)):List (Nat×Rat)->List (Nat×Rat)
 | []=>[]
 | x :: r=>if leads x.1=[]then x :: r else Gq x.2 (x :: r) (leads x.1)
def Ev (leads:Nat->List (Nat×Rat)):Nat->List (Nat×Rat)->List (Nat×Rat)
 | 0,r=>r
 | k+1,r=>Ro leads (Ev leads k r)
def scl:List (Nat×Rat)->List (Nat×Rat)
 | []=>[]
 | x :: r=>(x :: r).map (λy=>(y.1,1 / x.2*y.2))
def put (leads:Nat->List (Nat×Rat)) (r:List (Nat×Rat)):Nat->List (Nat×Rat):=
 match r with
 | []=>leads
 | x :: r=>λj=>if j=x.1 then scl (x :: r)else leads j
def elim (n:Nat) (rows:Nat->Nat->Int):Nat->Nat->List (Nat×Rat)
 | 0=>λ_=>[]
 | i+1=>put (elim n rows i) (Ev (elim n rows i) n (Qf (rows i) n))
def ldOf (leads:Nat->List (Nat×Rat)) (j:Nat):Bool:=!(leads j).isEmpty
def rowOf (leads:Nat->List (Nat×Rat)) (j q:Nat):Rat:=if ldOf leads j then val (leads j) q else if q=j then 1 else 0
theorem B7 {leads:Nat->List (Nat×Rat)} {j:Nat} (h:leads j=[]):ldOf leads j=false:=by rw[ldOf,h];rfl
theorem C5 {leads:Nat->List (Nat×Rat)} {j:Nat} (h:leads j≠[]):ldOf leads j=true:=by
 rw[ldOf];cases e:leads j with
 | nil=>exact absurd e h
 | cons x r=>rfl
def top (n B:Nat):Nat:=nd ((n+1)*(B*cap n B)+cap n B)
structure Good (n B:Nat) (leads:Nat->List (Nat×Rat)):Prop where
 inv:∃R,Inv B (ldOf leads) (rowOf leads) R
 ord:∀j,Ord n j (leads j)
 head:∀j,leads j=[]∨∃r,leads j=(j,1) :: r
 size:∀j x,x∈leads j->hq x.2<=top n B
def RowOk (n:Nat) (leads:Nat->List (Nat×Rat)) (v:Nat->Int) (t:Nat) (r:List (Nat×Rat)):Prop:=
 Ord n t r/\∃u,Sp (ldOf leads) (rowOf leads) t u/\∀q,(v q:Rat)=val r q+u q
theorem J3 {t n B:Nat} (h:t<=n):cap t B<=cap n B:=by
 have E:2*(t+1)*B+1<=2*(n+1)*B+1:=by
  have:=Nat.mul_le_mul_right B (show 2*(t+1)<=2*(n+1)by omega);omega
 exact nM (Nat.pow_le_pow_left E t) (Nat.pow_le_pow_right (Nat.succ_pos _) h)
theorem Je {n B t k:Nat} (I:t<=n) (E:k<=(t+1)*(B*cap t B)):nd k<=top n B:=by
 refine Bq (nM E (nM ?_ (Nat.le_add_right _ _)));exact Nat.mul_le_mul (by omega) (Nat.mul_le_mul_left _ (J3 I))
theorem Fw {n B t k:Nat} (I:t<=n) (E:k<=cap t B):nd k<=top n B:=
 Bq (nM E (nM (J3 I) (Nat.le_add_left _ _)))
theorem Dy {m N:Int} {r:Rat} (E:m≠0) (h:(m:Rat)*r=(N:Rat)):r=Rat.divInt N m:=by
 have I:(m:Rat)≠0:=λe=>E (by exact_mod_cast e)
 rw[Rat.divInt_eq_div];grind
theorem Ord.top {n:Nat}:∀{t:Nat} {r:List (Nat×Rat)},Ord n t r->n<=t->r=[]
 | _,[],_,_=>rfl
 | _,x :: r,h,ht=>by have E:=h.1;have I:=h.2.1;omega
theorem RowOk.size {n B:Nat} {leads:Nat->List (Nat×Rat)} {v:Nat->Int} {t:Nat} {r:List (Nat×Rat)} (hr:RowOk n leads v t r) (h:Good n B leads) (hv:∀q,(v q).natAbs<=B):
  (∀x,x∈r->hq x.2<=top n B)/\∀x y,x∈r->y∈r->hq (1 / x.2*y.2)<=top n B:=by
 obtain⟨R,hi⟩:=h.inv;obtain⟨J,u,hu,he⟩:=hr;by_cases ht:n<=t
 ·rw[J.top ht]
  refine⟨λx I=>?_,λx y I _=>?_⟩ <;> cases I
 ·obtain⟨m,N,V,Z,U,O⟩:=hi.height v hv (val r) t u hu he (Jk J)
  have aD:(m:Rat)≠0:=λe=>V (by exact_mod_cast e)
  refine⟨λx I=>?_,λx y I hy=>?_⟩
  ·have E:=O x.1
   rw[(Dn J x I).1]at E;rw[Dy V E];exact C9 V (Je (by omega) (U _)) (Fw (by omega) Z)
  ·have E:=O x.1
   have h2:=O y.1;obtain⟨e1,_,_,h4⟩:=Dn J x I;rw[e1]at E;rw[(Dn J y hy).1]at h2
   have h3:N x.1≠0:=λe=>by
    rw[e]at E;rcases Rat.mul_eq_zero.1 (E.trans rfl)with M|M
    ·exact aD M
    ·exact h4 M
   have h6:(N x.1:Rat)*(1 / x.2*y.2)=(N y.1:Rat):=by rw[<-E,<-h2];grind
   rw[Dy h3 h6];exact C9 h3 (Je (by omega) (U _)) (Je (by omega) (U _))
theorem RowOk.first (n:Nat) (leads:Nat->List (Nat×Rat)) (v:Nat->Int) (E:∀q,n<=q->v q=0):RowOk n leads v 0 (Qf v n):=by
 refine⟨Sx v n,λ_=>0,Sp.nil _ _ _,λq=>?_⟩;rw[eJ];by_cases h:q<n
 ·rw[if_pos h];grind
 ·rw[if_neg h,E q (by omega)]
  have:((0:Int):Rat)=0:=rfl;rw[this];grind
theorem RowOk.step {n B:Nat} {leads:Nat->List (Nat×Rat)} {v:Nat->Int} {t:Nat} {x:Nat×Rat} {r:List (Nat×Rat)} (hr:RowOk n leads v t (x :: r)) (h:Good n B leads) (I:leads x.1≠[]):
  RowOk n leads v (x.1+1) (Ro leads (x :: r))/\Ro leads (x :: r)=Gq x.2 (x :: r) (leads x.1)/\∃b,leads x.1=(x.1,1) :: b/\Gq x.2 (x :: r) (leads x.1)=Gq x.2 r b:=by
 obtain⟨O,u,hu,Z⟩:=hr;obtain⟨b,M⟩:=(h.head x.1).resolve_left I;have J:Ro leads (x :: r)=Gq x.2 (x :: r) (leads x.1):=by rw[Ro,if_neg I]
 have U:Gq x.2 (x :: r) (leads x.1)=Gq x.2 r b:=by rw[M];exact Jb _ _ _ _ _ rfl (by grind)
 have E:=h.ord x.1;rw[M]at E;have h1:=O.1;refine⟨⟨?_,λq=>u q+x.2*rowOf leads x.1 q,(hu.mono (by omega)).combine _ (Sp.lead (nO _) (C5 I)),λq=>?_⟩,J,b,M,U⟩
 ·rw[J,U]
  exact dD O.2.2.1 _ _ _ O.2.2.2 E.2.2.2
 ·have V:rowOf leads x.1 q=val (leads x.1) q:=by rw[rowOf,C5 I];rfl
  show(v q:Rat)=val (Ro leads (x :: r)) q+(u q+x.2*rowOf leads x.1 q)
  rw[J,eI,Z,V];grind
theorem Ik {leads:Nat->List (Nat×Rat)} {x:Nat×Rat} {r:List (Nat×Rat)} (E:leads x.1=[]):Ro leads (x :: r)=x :: r:=by rw[Ro,if_pos E]
theorem RowOk.steps {n B:Nat} {leads:Nat->List (Nat×Rat)} {v:Nat->Int} {r:List (Nat×Rat)} (hr:RowOk n leads v 0 r) (h:Good n B leads) (k:Nat):
  ∃t,RowOk n leads v t (Ev leads k r)/\(k<=t∨Ro leads (Ev leads k r)=Ev leads k r):=by
 induction k with
 | zero=>exact⟨0,hr,.inl (nL _)⟩
 | succ k ih=>
  obtain⟨t,E,I⟩:=ih;rw[Ev];rcases I with I|I
  ·cases e:Ev leads k r with
   | nil=>exact⟨t,by rw[e]at E;exact E,.inr rfl⟩
   | cons x r'=>
    rw[e]at E;by_cases hl:leads x.1=[]
    ·rw[Ik hl]
     exact⟨t,E,.inr (Ik hl)⟩
    ·have J:=E.1.1
     exact⟨x.1+1,(E.step h hl).1,.inl (by omega)⟩
  ·rw[I]
   exact⟨t,E,.inr I⟩
theorem Gn {leads:Nat->List (Nat×Rat)} {r:List (Nat×Rat)} {k:Nat} (h:Ro leads (Ev leads k r)=Ev leads k r) (m:Nat) (E:k<=m):Ev leads m r=Ev leads k r:=by
 induction m with
 | zero=>obtain rfl:k=0:=by omega
         rfl
 | succ m ih=>
  by_cases e:k=m+1
  ·rw[e]
  ·rw[Ev,ih (by omega),h]
theorem RowOk.end_still {n B:Nat} {leads:Nat->List (Nat×Rat)} {v:Nat->Int} {r:List (Nat×Rat)} (hr:RowOk n leads v 0 r) (h:Good n B leads):Ro leads (Ev leads n r)=Ev leads n r:=by
 obtain⟨t,I,E⟩:=hr.steps h n;rcases E with E|E
 ·rw[I.1.top E];rfl
 ·exact E
theorem Sp.turn {ld ld':Nat->Bool} {L I:Nat->Nat->Rat} {t:Nat} {u:Nat->Rat} (O:Sp ld L t u) (h:∀j,j<t->ld j=true->ld' j=true/\I j=L j):Sp ld' I t u:=by
 obtain⟨z,J,M⟩:=O;refine⟨z,λj E hn=>?_,λq=>?_⟩
 ·cases e:ld j with
  | false=>exact J j E e
  | true=>rw[(h j E e).1]at hn;cases hn
 ·rw[M]
  refine Ac λj E=>?_
  cases e:ld j with
  | false=>rw[J j E e];grind
  | true=>rw[(h j E e).2]
theorem Tp (x:Nat×Rat) (r:List (Nat×Rat)) (q:Nat):val (scl (x :: r)) q=1 / x.2*val (x :: r) q:=by
 rw[scl];generalize x :: r=l;induction l with
 | nil=>rw[List.map_nil,val];grind
 | cons y l ih=>
  rw[List.map_cons,val,val,ih];by_cases h:q=y.1
  ·simp only[if_pos h];grind
  ·simp only[if_neg h];grind
theorem Sw {n:Nat} {c:Rat} (I:c≠0):∀{t:Nat} {l:List (Nat×Rat)},Ord n t l->Ord n t (l.map (λy=>(y.1,1 / c*y.2)))
 | _,[],_=>trivial
 | _,y :: l,h=>⟨h.1,h.2.1,λe=>by
   rcases Rat.mul_eq_zero.1 e with E|E
   ·exact I (by grind)
   ·exact h.2.2.1 E,Sw I h.2.2.2⟩
theorem Good.put {n B:Nat} {leads:Nat->List (Nat×Rat)} {v:Nat->Int} {t:Nat} {r:List (Nat×Rat)} (h:Good n B leads) (hr:RowOk n leads v t r) (hv:∀q,(v q).natAbs<=B) (hs:Ro leads r=r):Good n B (Eli.put leads r):=by
 cases r with
 | nil=>exact h
 | cons x r=>
  have cA:leads x.1=[]:=by
   refine Classical.byContradiction λhl=>?_
   obtain⟨⟨ho,_⟩,_⟩:=hr.step h hl;rw[hs]at ho;have:=ho.1;omega
  obtain⟨_,cB⟩:=hr.size h hv;obtain⟨ho,u,hu,he⟩:=hr;obtain⟨R,hi⟩:=h.inv;have hx:=ho.2.2.1;obtain⟨J,bA⟩:∃J,Eli.put leads (x :: r)=J:=⟨_,rfl⟩
  have eP:∀j,J j=if j=x.1 then scl (x :: r)else leads j:=λj=>by rw[<-bA];rfl
  have e1:J x.1=scl (x :: r):=by rw[eP,if_pos rfl]
  have e2:∀j,j≠x.1->J j=leads j:=λj I=>by rw[eP,if_neg I]
  have e3:scl (x :: r)≠[]:=by rw[scl];intro e;cases e
  have U:ldOf J x.1=true:=C5 (by rw[e1];exact e3);have E:∀j,j≠x.1->ldOf J j=ldOf leads j:=λj I=>by rw[ldOf,e2 j I];rfl
  have O:∀j,j≠x.1->rowOf J j=rowOf leads j:=λj I=>by funext q;rw[rowOf,rowOf,E j I,e2 j I]
  have Z:∀q,rowOf J x.1 q=1 / x.2*val (x :: r) q:=λq=>by rw[rowOf,U,if_pos rfl,e1,Tp]
  have M:∀t u,Sp (ldOf leads) (rowOf leads) t u->Sp (ldOf J) (rowOf J) t u:=λt u hu=>hu.turn λj _ hl=>by
   have bC:j≠x.1:=λe=>by rw[e,B7 cA]at hl;cases hl
   exact⟨by rw[E j bC];exact hl,O j bC⟩
  have V:Ord n x.1 (x :: r):=⟨nL _,ho.2⟩
  rw[bA];refine⟨⟨λj=>if j=x.1 then v else R j,?_⟩,λj=>?_,λj=>?_,λj y hy=>?_⟩
  ·constructor
   ·intro j q hq
    by_cases e:j=x.1
    ·subst e;rw[Z,Jk V q hq];grind
    ·rw[O j e];exact hi.low j q hq
   ·intro j
    by_cases e:j=x.1
    ·subst e;rw[Z,(Dn V x (List.mem_cons_self ..)).1];grind
    ·rw[O j e];exact hi.one j
   ·intro j I q
    have e:j≠x.1:=λe=>by rw[e,U]at I;cases I
    rw[O j e];exact hi.free j (by rw[<-E j e];exact I) q
   ·intro j I q
    have e:j≠x.1:=λe=>by rw[e,U]at I;cases I
    simp only[if_neg e];exact hi.rfree j (by rw[<-E j e];exact I) q
   ·intro p hp
    by_cases e:p=x.1
    ·subst e
     refine⟨x.2,hx,u,(M _ _ (hu.mono ho.1)),λq=>?_⟩;rw[if_pos rfl,he,Z];grind
    ·obtain⟨s,h0,u2,hu2,bY⟩:=hi.got p (by rw[<-E p e];exact hp)
     refine⟨s,h0,u2,M _ _ hu2,λq=>?_⟩;rw[if_neg e,O p e];exact bY q
   ·intro p q
    show((if p=x.1 then v else R p) q).natAbs<=B;split
    ·exact hv q
    ·exact hi.bound p q
  ·by_cases e:j=x.1
   ·subst e;rw[e1,scl];exact Sw hx V
   ·rw[e2 j e];exact h.ord j
  ·by_cases e:j=x.1
   ·subst e
    refine .inr ⟨r.map (λy=>(y.1,1 / x.2*y.2)),?_⟩;rw[e1,scl,List.map_cons];have:1 / x.2*x.2=1:=by grind
    rw[this]
   ·rw[e2 j e];exact h.head j
  ·by_cases e:j=x.1
   ·subst e
    rw[e1,scl]at hy;obtain⟨z,hz,rfl⟩:=List.mem_map.1 hy;exact cB x z (List.mem_cons_self ..) hz
   ·rw[e2 j e]at hy;exact h.size j y hy
theorem Good.nil {n B:Nat} (hB:1<=B):Good n B (λ_=>[]):=
 ⟨⟨λj q=>if q=j then 1 else 0,by
  have I:∀j,ldOf (λ_=>[]) j=false:=λj=>rfl
  have hr:∀j q,rowOf (λ_=>[]) j q=if q=j then 1 else 0:=λj q=>rfl
  constructor
  ·intro j q hq;rw[hr,if_neg (by omega)]
  ·intro j;rw[hr,if_pos rfl]
  ·intro j _ q;rw[hr]
  ·intro j _ q;rfl
  ·intro p E;rw[I]at E;cases E
  ·intro p q;split
   ·exact hB
   ·exact Nat.zero_le _⟩,λ_=>trivial,λ_=>.inl rfl,λ_ _ J=>by cases J⟩
theorem Good.elim {n B:Nat} {rows:Nat->Nat->Int} (hB:1<=B) (J:∀i q,(rows i q).natAbs<=B) (E:∀i q,n<=q->rows i q=0) (k:Nat):Good n B (elim n rows k):=by
 induction k with
 | zero=>exact Good.nil hB
 | succ k ih=>
  have hr:=RowOk.first n (Eli.elim n rows k) (rows k) (E k)
  obtain⟨t,I,_⟩:=hr.steps ih n;exact ih.put I (J k) (hr.end_still ih)
end Eli
namespace Eli
open Tryz
open Sie
theorem Kg (q:Rat):hq (-q)=hq q:=by rw[hq,hq,Rat.neg_num,Rat.neg_den,Int.natAbs_neg]
theorem Nd:hq 0=1:=by rw[hq];decide
theorem Xq:hq 1=1:=by rw[hq];decide
def D6 (X:Nat->Nat->Rat):List (Nat×Rat)->Nat->Rat
 | [],_=>0
 | t :: r,f=>D6 X r f+-t.2*X t.1 f
def newRow (leads:Nat->List (Nat×Rat)) (X:Nat->Nat->Rat) (j f:Nat):Rat:=
 if leads j=[]then(if f=j then 1 else 0)else D6 X (leads j).tail.reverse f
def B6 (leads:Nat->List (Nat×Rat)) (n:Nat):Nat->Nat->Nat->Rat
 | 0=>λ_ _=>0
 | k+1=>λj=>if j=n - 1 - k then newRow leads (B6 leads n k) j else B6 leads n k j
theorem Rz (X:Nat->Nat->Rat) (a b:List (Nat×Rat)) (f:Nat):D6 X (a++b) f=D6 X a f+D6 X b f:=by
 induction a with
 | nil=>rw[List.nil_append,D6];grind
 | cons x a ih=>rw[List.cons_append,D6,D6,ih];grind
theorem P5 (X:Nat->Nat->Rat) (a:List (Nat×Rat)) (f:Nat):D6 X a.reverse f=D6 X a f:=by
 induction a with
 | nil=>rfl
 | cons x a ih=>rw[List.reverse_cons,Rz,ih,D6,D6,D6];grind
theorem Vs {X Y:Nat->Nat->Rat} {a:List (Nat×Rat)} {f:Nat} (h:∀x,x∈a->X x.1 f=Y x.1 f):D6 X a f=D6 Y a f:=by
 induction a with
 | nil=>rfl
 | cons x a ih=>rw[D6,D6,ih (λy E=>h y (List.mem_cons_of_mem _ E)),h x (List.mem_cons_self ..)]
theorem Lw (leads:Nat->List (Nat×Rat)) (n:Nat) {k m j:Nat} (I:k<=m) (J:m<=n) (E:n - k<=j):B6 leads n m j=B6 leads n k j:=by
 induction m with
 | zero=>obtain rfl:k=0:=by omega
         rfl
 | succ m ih=>
  by_cases e:k=m+1
  ·rw[e]
  ·rw[B6]
   simp only;rw[if_neg (by omega),ih (by omega) (by omega)]
theorem O4 {n B:Nat} {leads:Nat->List (Nat×Rat)} (h:Good n B leads) {k j:Nat} (Z:n - j<=k) (E:k<=n) (hj:j<n):B6 leads n k j=newRow leads (B6 leads n k) j:=by
 have M:B6 leads n k j=B6 leads n (n - j) j:=Lw leads n Z E (by omega)
 have O:B6 leads n (n - j) j=newRow leads (B6 leads n (n - 1 - j)) j:=by
  have e:n - j=(n - 1 - j)+1:=by omega
  rw[e,B6];simp only;rw[if_pos (by omega)]
 rw[M,O];funext f;rw[newRow,newRow];split
 ·rfl
 ·rename_i hl
  refine Vs λx I=>?_
  obtain⟨b,V⟩:=(h.head j).resolve_left hl;have J:=h.ord j;rw[V]at J I;rw[List.tail_cons,List.mem_reverse]at I;obtain⟨_,U,h4,_⟩:=Dn J.2.2.2 x I;dsimp only at U;rw[Lw leads n (k:=n - 1 - j) (m:=k) (by omega) E (by omega)]
theorem J7 {n B:Nat} {leads:Nat->List (Nat×Rat)} (h:Good n B leads) {k j:Nat} (J:n - j<=k) (E:k<=n) (I:j<n) (M:leads j=[]) (f:Nat):B6 leads n k j f=if f=j then 1 else 0:=by
 rw[O4 h J E I,newRow,if_pos M]
theorem Xc {n B:Nat} {leads:Nat->List (Nat×Rat)} (h:Good n B leads) {k j:Nat} (J:n - j<=k) (E:k<=n) (I:j<n) (M:leads j≠[]) (f:Nat):B6 leads n k j f=D6 (B6 leads n k) (leads j).tail f:=by
 rw[O4 h J E I,newRow,if_neg M,P5]
def jH (n:Nat) (leads:Nat->List (Nat×Rat)) (X:Nat->Nat->Rat) (j:Nat):Prop:=
 ∃u,Sp (ldOf leads) (rowOf leads) n u/\∀q,(if q=j then(1:Rat)else 0)=sumQ (λf=>(if ldOf leads f then 0 else X j f)*rowOf leads f q) n+u q
theorem Pz {n B:Nat} {leads:Nat->List (Nat×Rat)} (h:Good n B leads) (X:Nat->Nat->Rat):∀(r:List (Nat×Rat)),(∀x,x∈r->jH n leads X x.1) ->
  ∃u,Sp (ldOf leads) (rowOf leads) n u/\∀q,val r q=sumQ (λf=>(if ldOf leads f then 0 else -D6 X r f)*rowOf leads f q) n+u q
 | [],_=>⟨λ_=>0,Sp.nil _ _ _,λq=>by
   rw[val,A7 (λi _=>?_)]
   ·grind
   ·rw[D6];split <;> grind⟩
 | x :: r,hr=>by
  obtain⟨u,O,J⟩:=Pz h X r (λy V=>hr y (List.mem_cons_of_mem _ V));obtain⟨w,U,M⟩:=hr x (List.mem_cons_self ..);refine⟨_,O.combine x.2 U,λq=>?_⟩;have E:(if q=x.1 then x.2 else 0)=x.2*(if q=x.1 then(1:Rat)else 0):=by split <;> grind
  have I:sumQ (λf=>(if ldOf leads f then 0 else -D6 X (x :: r) f)*rowOf leads f q) n=x.2*sumQ (λf=>(if ldOf leads f then 0 else X x.1 f)*rowOf leads f q) n+sumQ (λf=>(if ldOf leads f then 0 else -D6 X r f)*rowOf leads f q) n:=by
   rw[<-Am,<-As];refine Ac λf _=>?_
   rw[D6];split <;> grind
  rw[A8,E,M,J,I];grind
theorem Zm {n B:Nat} {leads:Nat->List (Nat×Rat)} (h:Good n B leads):∀(m j:Nat),n - j<=m->j<n->∀k,n - j<=k->k<=n->jH n leads (B6 leads n k) j:=by
 intro m;induction m with
 | zero=>intro j h1 h2;omega
 | succ m ih=>
  intro j hm J k V E;by_cases hl:leads j=[]
  ·refine⟨λ_=>0,Sp.nil _ _ _,λq=>?_⟩
   rw[A6 J (λi _ Z=>?_)]
   ·have M:rowOf leads j q=if q=j then 1 else 0:=by rw[rowOf,B7 hl];rfl
    have O:(if ldOf leads j=true then(0:Rat)else B6 leads n k j j)=1:=by
     rw[B7 hl];show B6 leads n k j j=1;rw[J7 h V E J hl,if_pos rfl]
    rw[O,M];clear ih;grind
   ·clear ih
    split
    ·grind
    ·rw[J7 h V E J hl,if_neg Z];grind
  ·obtain⟨b,U⟩:=(h.head j).resolve_left hl
   have ho:=h.ord j;rw[U]at ho
   obtain⟨u,hu,eu⟩:=Pz h (B6 leads n k) b (λx hx=>by
    obtain⟨_,h1,h2,_⟩:=Dn ho.2.2.2 x hx;dsimp only at h1;exact ih x.1 (by omega) h2 k (by omega) E)
   have I:=Sp.lead (L:=rowOf leads) J (C5 hl);refine⟨_,I.combine (-1) hu,λq=>?_⟩;have M:rowOf leads j q=(if q=j then 1 else 0)+val b q:=by rw[rowOf,C5 hl,if_pos rfl,U,A8]
   have O:sumQ (λf=>(if ldOf leads f then 0 else B6 leads n k j f)*rowOf leads f q) n=-sumQ (λf=>(if ldOf leads f then 0 else -D6 (B6 leads n k) b f)*rowOf leads f q) n:=by
    have e3:-sumQ (λf=>(if ldOf leads f then 0 else -D6 (B6 leads n k) b f)*rowOf leads f q) n=-1*sumQ (λf=>(if ldOf leads f then 0 else -D6 (B6 leads n k) b f)*rowOf leads f q) n:=by grind
    rw[e3,<-Am];refine Ac λf _=>?_
    rw[Xc h V E J hl,U,List.tail_cons];split <;> grind
   rw[M,O,eu];grind
theorem O5 {n B:Nat} {leads:Nat->List (Nat×Rat)} (hB:1<=B) (h:Good n B leads) {k j f:Nat} (hk:n - j<=k) (E:k<=n) (hj:j<n) (J:f<n) (hl:leads f=[]):hq (B6 leads n k j f)<=top n B:=by
 obtain⟨R,Z⟩:=h.inv;obtain⟨u,hu,O⟩:=Zm h n j (by omega) hj k hk E;obtain⟨m,N,M,I,V,U⟩:=Z.coords (λq=>if q=j then 1 else 0) (λq=>by split <;> simp <;> omega) n (B6 leads n k j) u hu (λq=>by rw[<-O];split <;> rfl);rw[Dy M (U f J (B7 hl))];exact C9 M (Fw (nL _) (V f J)) (Fw (nL _) I)
theorem P6 {X:Nat->Nat->Rat} {K:Nat} {f:Nat}:∀(r:List (Nat×Rat)),(∀x,x∈r->hq x.2<=K)->(∀x,x∈r->hq (X x.1 f)<=K)->hq (D6 X r f)<=1+r.length*(2*K+1)
 | [],_,_=>by rw[D6,Nd];omega
 | x :: r,h1,h2=>by
  have J:=P6 r (λy E=>h1 y (List.mem_cons_of_mem _ E)) (λy E=>h2 y (List.mem_cons_of_mem _ E));have M:=h1 x (List.mem_cons_self ..);have O:=h2 x (List.mem_cons_self ..);have U:=H8 (D6 X r f) (-x.2*X x.1 f);have I:=Ce (-x.2) (X x.1 f);rw[Kg]at I;rw[D6,List.length_cons,Nat.succ_mul];omega
theorem Dx {n:Nat}:∀{t:Nat} {r:List (Nat×Rat)},Ord n t r->r.length<=n - t
 | _,[],_=>Nat.zero_le _
 | _,x :: r,h=>by
  have E:=Dx h.2.2.2;have I:=h.1;have J:=h.2.1;rw[List.length_cons];omega
theorem Nx {n B:Nat} (hn:n<=72) (hB:B<=16777216):top n B<=80:=by
 have E:cap n B<=cap 72 16777216:=by
  refine nM (J3 hn) (Nat.pow_le_pow_left ?_ 72);have:=Nat.mul_le_mul_left (2*(72+1)) hB;omega
 have I:(n+1)*(B*cap n B)+cap n B<=(72+1)*(16777216*cap 72 16777216)+cap 72 16777216:=
  Nat.add_le_add (Nat.mul_le_mul (by omega) (Nat.mul_le_mul hB E)) E
 exact Bf.2 (Nat.lt_of_le_of_lt I (by decide +kernel))
def frs (leads:Nat->List (Nat×Rat)) (n:Nat):List Nat:=(List.range n).filter (λj=>(leads j).isEmpty)
theorem Dc (leads:Nat->List (Nat×Rat)) (n:Nat):frs leads (n+1)=if leads n=[]then frs leads n++[n]else frs leads n:=by
 rw[frs,List.range_succ,List.filter_append];by_cases h:leads n=[]
 ·rw[if_pos h,List.filter_cons,h];rfl
 ·rw[if_neg h,List.filter_cons]
  have:(leads n).isEmpty=false:=by cases e:leads n with
   | nil=>exact absurd e h
   | cons x r=>rfl
  rw[this];exact List.append_nil _
theorem Gw {leads:Nat->List (Nat×Rat)} {n j:Nat}:j∈frs leads n↔j<n/\leads j=[]:=by
 rw[frs,List.mem_filter,List.mem_range,List.isEmpty_iff]
theorem Gi (leads:Nat->List (Nat×Rat)) (n:Nat):(frs leads n).length<=n:=by
 have:=List.length_filter_le (λj=>(leads j).isEmpty) (List.range n);rw[List.length_range]at this;exact this
theorem Xn (leads:Nat->List (Nat×Rat)) {j n:Nat} (h:j<=n):∃l,frs leads n=frs leads j++l:=by
 induction n with
 | zero=>obtain rfl:j=0:=by omega
         exact⟨[],(List.append_nil _).symm⟩
 | succ n ih=>
  by_cases e:j=n+1
  ·subst e;exact⟨[],(List.append_nil _).symm⟩
  ·obtain⟨l,E⟩:=ih (by omega)
   rw[Dc,E];split
   ·exact⟨l++[n],by rw[List.append_assoc]⟩
   ·exact⟨l,rfl⟩
theorem Xm (leads:Nat->List (Nat×Rat)) {j n:Nat} (h:j<n) (E:leads j=[]):(frs leads j).length<(frs leads n).length/\(frs leads n)[(frs leads j).length]?=some j:=by
 obtain⟨l,e⟩:=Xn leads (j:=j+1) (n:=n) h;rw[Dc,if_pos E]at e;constructor
 ·rw[e];simp
 ·rw[e];simp
theorem Gx (leads:Nat->List (Nat×Rat)) (n:Nat):(frs leads n).Pairwise (· < ·):=by
 rw[frs];exact List.Pairwise.filter _ List.pairwise_lt_range
end Eli
end Go.Proofs.YtenlbhlllgppmaaGreatDoor
namespace Go.Proofs.YtenlbhlllgppmaaGreatDoor
open Tryz
open Go.RowKit
theorem Il {P:Program} {W:World} {bC:Array Oper} {o:Oper} {a:Act} {K':Act->World->Prop} {Q:Exit->Act->World->Prop} {E':Prop} (K:Value->Prop) (cB:o.guard=none) (s x:Operand) (t E:TypeId)
  (ho:o.op=.call { callee:=.builtin .append,args:=#[s,x],argTypes:=#[t,t] }) {z:Value} {sz J:Nat} (hU:P.underlying t=some (.slice E))
  (U:(P.info? E).map (λi=>(i.zero,i.size,i.bytes))=some (some z,sz,J)) (bB:z.cells.size=sz) (aK:0<sz) (B n:Nat) (v:Value) (xs I:List Value)
  (hs:a.eval s=v) (aD:OwnK K W B E sz v n xs) (hx:a.eval x=.slice (some ⟨W.heap.size,0,none⟩) 1 1) (hn:I.length=sz) (h1:∀u∈I,u.oneCell'=true)
  (hb:(n+1)*J<=140737488355328) (hm:n+1<=9223372036854775807) (hB:B<=W.heap.size) (bY:∀u∈I,K u) (cA:∀u∈z.cells.toList,K u)
  (h:∀V w',OwnK K w' B E sz V (n+1) (xs++I)->W.grownBy w' v.ownBlock->(V.ownBlock=v.ownBlock∨V.ownBlock=some (W.heap.size+1))->K' (a.put o.dst V) w'):
  if Region.wanted o (yielded bC a.tmps)=true then Oper.wp P o a (W.alloc (.cells I.toArray E)) K' Q else E':=by
 have hw:Region.wanted o (yielded bC a.tmps)=true:=by simp[Region.wanted,cB]
 rw[if_pos hw];obtain⟨i0,hi,aN,aX,bA⟩:=info_parts U
 have O:∀(j:Nat) (u:Value),I[j]?=some u->(W.alloc (.cells I.toArray E)).cell? ((⟨W.heap.size,0,none⟩:Addr).add j)=some u:=by
  intro j u hu;have hc:=(Blk.new W E I.toArray).cell_ j
  have e:(⟨W.heap.size,0,none⟩:Addr).add j=⟨W.heap.size,j,none⟩:=by
   unfold Addr.add;split
   ·rename_i h0;rw[h0]
   ·simp
  rw[e,hc]
  simpa using hu
 have M:OwnK K (W.alloc (.cells I.toArray E)) B E sz v n xs:=aD.keep ((Below.refl _ _).alloc (nL _) _);obtain⟨V,w',hr,g1,g2,_,Z⟩:=run_append_own_at (P:=P) (W.alloc (.cells I.toArray E)) B t o.type E i0 z sz J hU hi aN aX bA bB aK v n xs M.1 ⟨W.heap.size,0,none⟩ 1 1 I (by omega) O h1 hm hb (by simp;omega);have g4:=Ep K (W.alloc (.cells I.toArray E)) B t o.type E i0 z sz J hU hi aN aX bA bB aK v n xs M.1 ⟨W.heap.size,0,none⟩ 1 1 I (by omega) O h1 hm hb (by omega) M.2 bY cA hr;unfold Oper.wp execOp;simp only[ho,resolve,invoke,builtin,Sem.run_bind,Sem.run_pure,Result.andThen_ok,List.map_toArray,List.map_cons,List.map_nil,hs,hx,hr];refine h V w' ⟨g1,g4⟩ (Dv g2) ?_;rcases Z with Z|Z
 ·exact .inl Z
 ·exact .inr (by rw[Z];simp)
theorem I32.putU {w:World} {R:Nat} (J:Stk NotU32 w R) (i:Nat) (u:Value):I32 w (w.setCell ⟨R,i,none⟩ u):=
 ⟨by simp,λg j n e=>by
  have E:R≠g:=λI=>J.2 j _ (by rw[I];exact e) _ rfl
  rw[World.cell?_setCell_far w ⟨R,i,none⟩ ⟨g,j,none⟩ u E];exact e⟩
theorem Stk.putU {K:Value->Prop} {w:World} {R:Nat} (h:Stk K w R) (p:Addr) (u:Value) (I:K u):Stk K (w.setCell p u) R:=by
 refine⟨by simpa using h.1,λi v E=>?_⟩;by_cases hp:p=⟨R,i,none⟩
 ·cases hc:w.cell? p with
  | none=>
   have:((w.setCell p u).cell? p)=none:=Ex u hc;rw[<-hp,this]at E;cases E
  | some y=>
   rw[<-hp,World.cell?_setCell_same' _ _ _ (by rw[hc];rfl)]at E;injection E with E
   rw[<-E];exact I
 ·rw[World.cell?_setCell_other _ _ _ _ hp]at E
  exact h.2 i v E
def TE (x:Nat×Rat) (w:World) (g i:Nat):Prop:=w.cell? ⟨g,i,none⟩=some (.int .i64 (x.1:Int))/\QE (IsQ x.2) w g (i+1)
theorem TE.keep {x:Nat×Rat} {w w':World} {g i:Nat} (h:TE x w g i) (E:Below w.heap.size w w'):TE x w' g i:=
 ⟨(E.cell (p:=⟨g,i,none⟩) (World.block_lt_of_cell? w ⟨g,i,none⟩ h.1)).trans h.1,h.2.keep (IsQ.solid _) E⟩
theorem TE.next {x:Nat×Rat} {B:Nat} {w w':World} {g i:Nat} (h:TE x w g i) (hg:g<B) (I:I32 w w') (Z:Below B w w'):TE x w' g i:=by
 have E:∀j v,w.cell? ⟨g,j,none⟩=some v->w'.cell? ⟨g,j,none⟩=some v:=λj v e=>(Z.cell (p:=⟨g,j,none⟩) hg).trans e
 obtain⟨e,s,p,n,c,t,q,m,d,J,M,O,U,V⟩:=h;exact⟨E _ _ e,s,p,n,c,t,q,m,d,E _ _ J,E _ _ M,E _ _ O,E _ _ U,V.i32 I⟩
def TL (l:List (Nat×Rat)) (w:World) (B:Nat) (v:Value):Prop:=
 (l=[]/\∃a c,v=.slice a 0 c)∨∃g o cap,v=.slice (some ⟨g,o,none⟩) l.length cap/\l.length<=cap/\cap<=9223372036854775807/\g<B/\∀j x,l[j]?=some x->TE x w g (o+j*5)
theorem TL.next {l:List (Nat×Rat)} {w w':World} {B:Nat} {v:Value} (h:TL l w B v) (E:I32 w w') (J:Below B w w'):TL l w' B v:=by
 rcases h with h |⟨g,o,cap,e,M,I,hg,O⟩
 ·exact .inl h
 ·exact .inr ⟨g,o,cap,e,M,I,hg,λj x U=>(O j x U).next hg E J⟩
theorem TL.keep {l:List (Nat×Rat)} {w w':World} {B:Nat} {v:Value} (h:TL l w B v) (hB:B<=w.heap.size) (E:Below w.heap.size w w'):TL l w' B v:=h.next (I32.below E) (E.mono hB)
theorem TL.up {l:List (Nat×Rat)} {w:World} {B B':Nat} {v:Value} (h:TL l w B v) (hB:B<=B'):TL l w B' v:=by
 rcases h with h |⟨g,o,cap,e,I,E,hg,J⟩
 ·exact .inl h
 ·exact .inr ⟨g,o,cap,e,I,E,by omega,J⟩
theorem TL.cons {x:Nat×Rat} {l:List (Nat×Rat)} {w:World} {B:Nat} {v:Value} (h:TL (x :: l) w B v):
  ∃g o cap,v=.slice (some ⟨g,o,none⟩) (l.length+1) (cap+1)/\l.length<=cap/\cap<9223372036854775807/\g<B/\TE x w g o/\TL l w B (.slice (some ⟨g,o+5,none⟩) l.length cap):=by
 rcases h with⟨h,_⟩ |⟨g,o,cap,e,J,M,hg,I⟩
 ·cases h
 ·rw[List.length_cons]at e J
  obtain⟨c,rfl⟩:∃c,cap=c+1:=⟨cap - 1,by omega⟩
  refine⟨g,o,c,e,by omega,by omega,hg,by simpa using I 0 x rfl,.inr ⟨g,o+5,c,rfl,by omega,by omega,hg,λj y O=>?_⟩⟩;have E:=I (j+1) y O;rw[show o+(j+1)*5=o+5+j*5 by omega]at E;exact E
theorem TL.nil {w:World} {B:Nat} {v:Value} (h:TL [] w B v):∃a c,v=.slice a 0 c:=by
 rcases h with⟨_,h⟩ |⟨g,o,cap,e,_⟩
 ·exact h
 ·exact⟨_,_,e⟩
theorem TL.cut {l:List (Nat×Rat)} {w:World} {B:Nat} {a:Option Addr} {cap:Nat} (X:Option Addr) (h:TL l w B (.slice a l.length cap)) (I:l.length<=cap):TL l w B (.slice (if cap=0 then X else a) l.length cap):=by
 by_cases h0:cap=0
 ·rw[if_pos h0]
  have E:l=[]:=List.eq_nil_of_length_eq_zero (by omega);subst E;exact .inl ⟨rfl,_,_,rfl⟩
 ·rw[if_neg h0];exact h
def TX (x:Nat×Rat) (w:World) (xs:List Value) (i:Nat):Prop:=xs[i]?=some (.int .i64 (x.1:Int))/\QX (IsQ x.2) w xs (i+1)
def OwnT (l:List (Nat×Rat)) (w:World) (B:Nat) (v:Value):Prop:=∃xs,OwnK NotU32 w B 110 5 v l.length xs/\∀j x,l[j]?=some x->TX x w xs (j*5)
theorem OwnT.nil (w:World) (B:Nat):OwnT [] w B (.slice none 0 0):=⟨[],OwnK.nil _ _ _ _ _,λj x E=>by simp at E⟩
theorem OwnT.keep {l:List (Nat×Rat)} {w w':World} {B:Nat} {v:Value} (h:OwnT l w B v) (I:Below w.heap.size w w'):OwnT l w' B v:=by
 obtain⟨O,M,E⟩:=h;exact⟨O,M.keep I,λj x J=>⟨(E j x J).1,(E j x J).2.i32 (IsQ.solid _) (I32.below I)⟩⟩
theorem Ob {I J:List Value} {j:Nat} {v:Value} (e:I[j]?=some v):(I++J)[j]?=some v:=by
 rw[List.getElem?_append_left]
 ·exact e
 ·rcases Nat.lt_or_ge j I.length with hlt|E
  ·exact hlt
  ·rw[List.getElem?_eq_none E]at e;cases e
theorem OwnT.push {l:List (Nat×Rat)} {W w':World} {B:Nat} {v V:Value} {M:List Value} (U:OwnK NotU32 W B 110 5 v l.length M) (h2:∀j x,l[j]?=some x->TX x W M (j*5))
  (a:Nat) (r:Rat) {s t:Bool} {p q:Option Addr} {k c m d:Nat} (hq:Qs W s p k c t q m d r) (h3:OwnK NotU32 w' B 110 5 V (l.length+1) (M++[.int .i64 (a:Int),.bool s,.slice p k c,.bool t,.slice q m d])) (hg:W.grownBy w' v.ownBlock):OwnT (l++[(a,r)]) w' B V:=by
 have I:=I32.grown (K:=NotU32) (λx=>Et x) U.2 hg;have J:M.length=l.length*5:=U.1.1;refine⟨_,by rw[List.length_append];exact h3,λj x E=>?_⟩;by_cases hj:j<l.length
 ·rw[List.getElem?_append_left hj]at E
  obtain⟨Z,e1⟩:=h2 j x E;exact⟨Ob Z,(e1.i32 (IsQ.solid _) I).app⟩
 ·rw[List.getElem?_append_right (by omega)]at E
  have O:j=l.length:=by
   rcases Nat.eq_zero_or_pos (j - l.length)with h|h
   ·omega
   ·rw[List.getElem?_eq_none (by rw[List.length_singleton];omega)]at E;cases E
  subst O;rw[Nat.sub_self]at E;injection E with E
  subst E;refine⟨?_,s,p,k,c,t,q,m,d,?_,?_,?_,?_,hq.i32 I⟩
  ·rw[List.getElem?_append_right (by omega),J,show l.length*5 - l.length*5=0 by omega];rfl
  ·rw[List.getElem?_append_right (by omega),J,show l.length*5+1 - l.length*5=1 by omega];rfl
  ·rw[List.getElem?_append_right (by omega),J,show l.length*5+1+1 - l.length*5=2 by omega];rfl
  ·rw[List.getElem?_append_right (by omega),J,show l.length*5+1+2 - l.length*5=3 by omega];rfl
  ·rw[List.getElem?_append_right (by omega),J,show l.length*5+1+3 - l.length*5=4 by omega];rfl
structure TRow (l:List (Nat×Rat)) (w:World) (g:Nat):Prop where
 stk:Stk NotU32 w g
 free:∀i,i<l.length*5->w.frozen? ⟨g,i,none⟩=false
 has:∀i,i<l.length*5->(w.cell? ⟨g,i,none⟩).isSome=true
 val:∀j x,l[j]?=some x->TE x w g (j*5)
theorem OwnT.row {l:List (Nat×Rat)} {w:World} {B:Nat} {v:Value} (h:OwnT l w B v):(l=[]/\v=.slice none 0 0)∨∃g cap,v=.slice (some ⟨g,0,none⟩) l.length cap/\l.length<=cap/\cap<=9223372036854775807/\B<=g/\g<w.heap.size/\TRow l w g:=by
 obtain⟨O,E,h2⟩:=h;rcases E.1.2 with⟨I,V⟩ |⟨g,cap,cs,I,hB,hg,hn,J,bB,_⟩
 ·exact .inl ⟨List.eq_nil_of_length_eq_zero V,I⟩
 ·right
  have hl:O.length=l.length*5:=E.1.1;have M:=E.2 g (by rw[I];rfl);subst I;refine⟨g,cap,rfl,hn,by simp only[maxLen]at J;omega,hB,M.1,⟨M,λi _=>?_,λi hi=>?_,λj x hx=>?_⟩⟩
  ·exact Blk.free_ hg i
  ·rw[Ai E.1 (List.getElem?_eq_getElem (by omega:i<O.length))];rfl
  ·obtain⟨U,s,p,n,c,t,q,m,d,Z,f1,f2,f3,f4⟩:=h2 j x hx
   exact⟨Ai E.1 U,s,p,n,c,t,q,m,d,Ai E.1 Z,Ai E.1 f1,Ai E.1 f2,Ai E.1 f3,f4⟩
theorem OwnT.tl {l:List (Nat×Rat)} {w:World} {B:Nat} {v:Value} (h:OwnT l w B v):TL l w w.heap.size v:=by
 rcases h.row with⟨rfl,rfl⟩ |⟨g,cap,rfl,E,I,_,J,M⟩
 ·exact .inl ⟨rfl,_,_,rfl⟩
 ·exact .inr ⟨g,0,cap,rfl,E,I,J,λj x O=>by rw[Nat.zero_add];exact M.val j x O⟩
theorem En:(prog.info? 110).map (λi=>(i.zero,i.size,i.bytes))=some (some (.agg #[.int .i64 0,.bool false,.slice none 0 0,.bool false,.slice none 0 0]),5,72):=by kernel_rfl
theorem Vc (a:Int) (s:Bool) (p:Option Addr) (n c:Nat) (t:Bool) (q:Option Addr) (m d:Nat):∀u∈[Value.int .i64 a,.bool s,.slice p n c,.bool t,.slice q m d],u.oneCell'=true:=by
 intro u E;simp at E;rcases E with rfl|rfl|rfl|rfl|rfl <;> rfl
theorem jA (a:Int) (s:Bool) (p:Option Addr) (n c:Nat) (t:Bool) (q:Option Addr) (m d:Nat):∀u∈[Value.int .i64 a,.bool s,.slice p n c,.bool t,.slice q m d],NotU32 u:=by
 intro u E;simp at E;rcases E with rfl|rfl|rfl|rfl|rfl <;> exact λ_ h=>by cases h
theorem Vb:∀u∈(Value.agg #[.int .i64 0,.bool false,.slice none 0 0,.bool false,.slice none 0 0]).cells.toList,NotU32 u:=by
 intro u E;simp[Value.cells]at E;rcases E with rfl|rfl|rfl|rfl|rfl <;> exact λ_ h=>by cases h
end Go.Proofs.YtenlbhlllgppmaaGreatDoor
