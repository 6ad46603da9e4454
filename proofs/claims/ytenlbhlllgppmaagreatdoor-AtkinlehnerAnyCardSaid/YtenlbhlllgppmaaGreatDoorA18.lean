/- Small solutions of linear equations, by counting: n equations in n + 1 unknowns with small integer coefficients have a small solution other than 0. No program in sight. -/
import Derived.Test.YtenlbhlllgppmaaGreatDoorA17
namespace Go.Proofs.YtenlbhlllgppmaaGreatDoor
open Tryz
namespace Sie
open Tryz
theorem Na {M:Type} (l:List M) (f:M->Nat) (W:Nat) (J:∀x∈l,f x<W+1):l.length=(l.filter (λx=>f x=W)).length+(l.filter (λx=>f x<W)).length:=by
 induction l with
 | nil=>rfl
 | cons x l ih=>
  have U:=ih (λy O=>J y (List.mem_cons_of_mem _ O));have V:=J x (List.mem_cons_self ..);by_cases h:f x=W
  ·have I:¬f x<W:=by omega
   simp only[List.filter_cons,h,decide_true,if_true,List.length_cons,Nat.lt_irrefl,decide_false,Bool.false_eq_true,if_false];omega
  ·have I:f x<W:=by omega
   simp only[List.filter_cons,h,decide_false,Bool.false_eq_true,if_false,List.length_cons,I,decide_true,if_true];omega
theorem box {M:Type} (W:Nat):∀(l:List M) (f:M->Nat) (c:Nat),(∀x∈l,f x<W)->W*c<l.length->∃v,v<W/\c<(l.filter (λx=>f x=v)).length:=by
 induction W with
 | zero=>
  intro l f c I J;cases l with
  | nil=>simp at J
  | cons x l=>exact absurd (I x (List.mem_cons_self ..)) (Nat.not_lt_zero _)
 | succ W ih=>
  intro l f c I J;have Z:=Na l f W I;by_cases h:c<(l.filter (λx=>f x=W)).length
  ·exact⟨W,mJ _,h⟩
  ·have O:W*c<(l.filter (λx=>f x<W)).length:=by
    rw[Nat.succ_mul]at J;omega
   obtain⟨v,V,U⟩:=ih (l.filter (λx=>f x<W)) f c (λx Y=>by simpa using (List.mem_filter.1 Y).2) O;refine⟨v,by omega,mI U ?_⟩;rw[List.filter_filter]
   exact Nat.le_of_eq (congrArg List.length (List.filter_congr λx _=>by
    by_cases h:f x=v
    ·simp[h,V]
    ·simp[h]))
theorem dA (W:Nat) (n:Nat):∀(l:List Nat) (s:Nat->Nat->Nat),l.Nodup->(∀q,q<n->∀x∈l,s q x<W)->W ^ n<l.length->∃x y,x∈l/\y∈l/\x≠y/\∀q,q<n->s q x=s q y:=by
 induction n with
 | zero=>
  intro l s I O J;rw[Nat.pow_zero]at J
  match l,I,J with
  | x :: y :: l,I,_=>
   refine⟨x,y,List.mem_cons_self ..,List.mem_cons_of_mem _ (List.mem_cons_self ..),?_,λq hq=>absurd hq (Nat.not_lt_zero _)⟩;intro h;rw[List.nodup_cons]at I;exact I.1 (h▸List.mem_cons_self ..)
 | succ n ih=>
  intro l s I O J;rw[Nat.pow_succ,Nat.mul_comm]at J;obtain⟨v,_,h2⟩:=box W l (s n) (W ^ n) (O n (mJ _)) J;obtain⟨x,y,U,hy,M,he⟩:=ih (l.filter (λx=>s n x=v)) s (I.sublist List.filter_sublist) (λq hq x U=>O q (by omega) x (List.mem_filter.1 U).1) h2;have V:=List.mem_filter.1 U;have Y:=List.mem_filter.1 hy;refine⟨x,y,V.1,Y.1,M,λq hq=>?_⟩;by_cases h:q=n
  ·subst h
   have Z:=V.2;have b2:=Y.2;simp at Z b2;rw[Z,b2]
  ·exact he q (by omega)
theorem Gi (r:Nat) (k:Nat):∀x y:Nat,x<r ^ k->y<r ^ k->(∀i,i<k->x / r ^ i % r=y / r ^ i % r)->x=y:=by
 induction k with
 | zero=>intro x y I J _;rw[Nat.pow_zero]at I J;omega
 | succ k ih=>
  intro x y I J h;have O:=h 0 (Nat.succ_pos _);rw[Nat.pow_zero,Nat.div_one,Nat.div_one]at O;rw[Nat.pow_succ]at I J
  have Y:x / r=y / r:=by
   refine ih (x / r) (y / r) (Nat.div_lt_of_lt_mul (by rw[Nat.mul_comm];exact I)) (Nat.div_lt_of_lt_mul (by rw[Nat.mul_comm];exact J)) (λi Z=>?_);have U:=h (i+1) (by omega);rw[Nat.pow_succ,Nat.mul_comm,<-Nat.div_div_eq_div_mul,<-Nat.div_div_eq_div_mul]at U;exact U
  have M:=Nat.div_add_mod x r;have V:=Nat.div_add_mod y r;rw[Y]at M;rw[<-M,O,V]
def sum (f:Nat->Int):Nat->Int
 | 0=>0
 | n+1=>sum f n+f n
theorem bQ (f g:Nat->Int) (n:Nat):sum (λi=>f i - g i) n=sum f n - sum g n:=by
 induction n with
 | zero=>rfl
 | succ n ih=>rw[sum,sum,sum,ih];omega
theorem Mj {f:Nat->Int} {n:Nat} {K:Int} (h:∀i,i<n->-K<=f i/\f i<=K):-(n*K)<=sum f n/\sum f n<=n*K:=by
 induction n with
 | zero=>rw[sum];omega
 | succ n ih=>
  have J:=ih (λi O=>h i (by omega));have M:=h n (mJ _);have I:((n+1:Nat):Int)*K=(n:Int)*K+K:=by rw[Int.natCast_add,Int.add_mul];omega
  rw[sum,I];omega
theorem H8 {a x:Int} {B X:Nat} (I:a.natAbs<=B) (J:0<=x) (U:x<=X):-((B:Int)*X)<=a*x/\a*x<=(B:Int)*X:=by
 have M:(a*x).natAbs<=B*X:=by
  rw[Int.natAbs_mul];exact Nat.mul_le_mul I (by omega)
 have O:((B*X:Nat):Int)=(B:Int)*X:=by rw[Int.natCast_mul]
 omega
def cap (n B:Nat):Nat:=(2*(n+1)*B+1) ^ n
theorem iO (n B:Nat):(2*(n+1)*B*cap n B+1) ^ n<(cap n B+1) ^ (n+1):=by
 have U:0<cap n B:=Nat.pow_pos (Nat.succ_pos _)
 have J:2*(n+1)*B*cap n B+1<=(2*(n+1)*B+1)*cap n B:=by
  rw[Nat.add_mul,Nat.one_mul];omega
 have I:=Nat.pow_le_pow_left J n;rw[Nat.mul_pow]at I;have M:(2*(n+1)*B+1) ^ n=cap n B:=rfl;rw[M]at I;have O:cap n B ^ n<=(cap n B+1) ^ n:=Nat.pow_le_pow_left (Nat.le_succ _) n;have V:0<(cap n B+1) ^ n:=Nat.pow_pos (Nat.succ_pos _);have Y:cap n B*cap n B ^ n<=cap n B*(cap n B+1) ^ n:=Nat.mul_le_mul_left _ O;have Z:(cap n B+1) ^ (n+1)=cap n B*(cap n B+1) ^ n+(cap n B+1) ^ n:=by rw[Nat.pow_succ,Nat.mul_comm,Nat.add_mul,Nat.one_mul]
 omega
theorem small (n B:Nat) (a:Nat->Nat->Int) (ha:∀q i,q<n->i<n+1->(a q i).natAbs<=B):
  ∃m:Nat->Int,(∃i,i<n+1/\m i≠0)/\(∀i,i<n+1->(m i).natAbs<=cap n B)/\∀q,q<n->sum (λi=>a q i*m i) (n+1)=0:=by
 obtain⟨X,hX⟩:∃X,cap n B=X:=⟨_,rfl⟩
 have I:=iO n B;rw[hX]at I ⊢;obtain⟨r,hr⟩:∃r,X+1=r:=⟨_,rfl⟩
 rw[hr]at I;obtain⟨d,hd⟩:∃d:Nat->Nat->Int,d=λx i=>((x / r ^ i % r:Nat):Int):=⟨_,rfl⟩
 have J:∀x i,0<=d x i/\d x i<=(X:Int):=λx i=>by
  have M:x / r ^ i % r<r:=Nat.mod_lt _ (by omega);rw[hd];dsimp only;omega
 have V:∀q x,q<n->-((n+1:Nat)*((B:Int)*X))<=sum (λi=>a q i*d x i) (n+1)/\sum (λi=>a q i*d x i) (n+1)<=(n+1:Nat)*((B:Int)*X):=λq x hq=>
  Mj (λi U=>H8 (ha q i hq U) (J x i).1 (J x i).2)
 obtain⟨T,hT⟩:∃T:Nat,(n+1)*(B*X)=T:=⟨_,rfl⟩
 have O:((n+1:Nat):Int)*((B:Int)*X)=(T:Int):=by rw[<-hT,Int.natCast_mul,Int.natCast_mul]
 have hW:2*(n+1)*B*X+1=2*T+1:=by rw[<-hT,Nat.mul_assoc 2,Nat.mul_assoc 2,Nat.mul_assoc (n+1)]
 rw[hW]at I
 obtain⟨x,y,hx,hy,Y,he⟩:=dA (2*T+1) n (List.range (r ^ (n+1))) (λq x=>(sum (λi=>a q i*d x i) (n+1)+T).toNat) List.nodup_range (λq hq x _=>by
  have M:=V q x hq;rw[O]at M;omega) (by rw[List.length_range];exact I)
 rw[List.mem_range]at hx hy;refine⟨λi=>d x i - d y i,?_,λi U=>?_,λq hq=>?_⟩
 ·refine Classical.byContradiction λZ=>Y (Gi r (n+1) x y hx hy λi U=>?_)
  have M:d x i - d y i=0:=Classical.byContradiction λh=>Z ⟨i,U,h⟩
  rw[hd]at M;dsimp only at M;omega
 ·have M:=J x i
  have h2:=J y i;show(d x i - d y i).natAbs<=X;omega
 ·have M:=he q hq
  have h2:=V q x hq;have h3:=V q y hq;rw[O]at h2 h3;have h4:(λi=>a q i*(d x i - d y i))=λi=>a q i*d x i - a q i*d y i:=by funext i;rw[Int.mul_sub]
  rw[h4,bQ];omega
end Sie
namespace Eli
open Tryz
open Sie
theorem Ad {f g:Nat->Rat} {n:Nat} (h:∀i,i<n->f i=g i):sumQ f n=sumQ g n:=by
 induction n with
 | zero=>rfl
 | succ n ih=>rw[sumQ,sumQ,ih (λi I=>h i (by omega)),h n (mJ _)]
theorem Ar (f g:Nat->Rat) (n:Nat):sumQ (λi=>f i+g i) n=sumQ f n+sumQ g n:=by
 induction n with
 | zero=>rw[sumQ,sumQ,sumQ];grind
 | succ n ih=>rw[sumQ,sumQ,sumQ,ih];grind
theorem Ap (c:Rat) (f:Nat->Rat) (n:Nat):sumQ (λi=>c*f i) n=c*sumQ f n:=by
 induction n with
 | zero=>rw[sumQ,sumQ];grind
 | succ n ih=>rw[sumQ,sumQ,ih];grind
theorem A4 {f:Nat->Rat} {n:Nat} (h:∀i,i<n->f i=0):sumQ f n=0:=by
 induction n with
 | zero=>rfl
 | succ n ih=>rw[sumQ,ih (λi I=>h i (by omega)),h n (mJ _)];grind
theorem Ba {f:Nat->Rat} {n j:Nat} (J:j<n) (h:∀i,i<n->i≠j->f i=0):sumQ f n=f j:=by
 induction n with
 | zero=>omega
 | succ n ih=>
  rw[sumQ];by_cases e:j=n
  ·subst e
   rw[A4 (λi I=>h i (by omega) (by omega))];grind
  ·rw[ih (by omega) (λi I=>h i (by omega)),h n (by omega) (by omega)];grind
theorem Ij {f:Nat->Rat} {t n:Nat} (M:t<=n) (h:∀i,t<=i->i<n->f i=0):sumQ f n=sumQ f t:=by
 induction n with
 | zero=>obtain rfl:t=0:=by omega
         rfl
 | succ n ih=>
  by_cases e:t=n+1
  ·rw[e]
  ·rw[sumQ,ih (by omega) (λi I J=>h i I (by omega)),h n (by omega) (by omega)];grind
theorem Yt (f:Nat->Int) (n:Nat):((sum f n:Int):Rat)=sumQ (λi=>(f i:Rat)) n:=by
 induction n with
 | zero=>rfl
 | succ n ih=>rw[sum,sumQ,<-ih,Rat.intCast_add]
def Sp (ld:Nat->Bool) (L:Nat->Nat->Rat) (t:Nat) (u:Nat->Rat):Prop:=
 ∃z:Nat->Rat,(∀j,j<t->ld j=false->z j=0)/\∀q,u q=sumQ (λj=>z j*L j q) t
theorem Sp.nil (ld:Nat->Bool) (L:Nat->Nat->Rat) (t:Nat):Sp ld L t (λ_=>0):=
 ⟨λ_=>0,λ_ _ _=>rfl,λq=>(A4 (λi _=>by grind)).symm⟩
theorem Sp.combine {ld:Nat->Bool} {L:Nat->Nat->Rat} {t:Nat} {u v:Nat->Rat} (U:Sp ld L t u) (c:Rat) (V:Sp ld L t v):Sp ld L t (λq=>u q+c*v q):=by
 obtain⟨y,Y,M⟩:=U;obtain⟨z,Z,O⟩:=V;refine⟨λj=>y j+c*z j,λj I J=>by simp only[Y j I J,Z j I J];grind,λq=>?_⟩;dsimp only;rw[M,O,<-Ap,<-Ar];exact Ad λi _=>by grind
theorem Sp.mono {ld:Nat->Bool} {L:Nat->Nat->Rat} {t I:Nat} {u:Nat->Rat} (V:Sp ld L t u) (h:t<=I):Sp ld L I u:=by
 obtain⟨y,Y,J⟩:=V;refine⟨λj=>if j<t then y j else 0,λj Z U=>?_,λq=>?_⟩
 ·by_cases e:j<t
  ·simp only[if_pos e,Y j e U]
  ·simp only[if_neg e]
 ·rw[J,Ij h (λi M _=>by simp only[if_neg (Nat.not_lt.2 M)];grind)]
  exact Ad λi O=>by simp only[if_pos O]
theorem Sp.lead {ld:Nat->Bool} {L:Nat->Nat->Rat} {t j:Nat} (J:j<t) (M:ld j=true):Sp ld L t (L j):=by
 refine⟨λi=>if i=j then 1 else 0,λi O hn=>?_,λq=>?_⟩
 ·have:i≠j:=λe=>by rw[e,M]at hn;cases hn
  simp only[if_neg this]
 ·rw[Ba J (λi _ I=>by simp only[if_neg I];grind)]
  simp
theorem Sp.congr {ld:Nat->Bool} {L:Nat->Nat->Rat} {t:Nat} {u v:Nat->Rat} (J:Sp ld L t u) (h:∀q,v q=u q):Sp ld L t v:=by
 obtain⟨y,M,I⟩:=J;exact⟨y,M,λq=>by rw[h,I]⟩
structure Inv (B:Nat) (ld:Nat->Bool) (L:Nat->Nat->Rat) (R:Nat->Nat->Int):Prop where
 low:∀j q,q<j->L j q=0
 one:∀j,L j j=1
 free:∀j,ld j=false->∀q,L j q=if q=j then 1 else 0
 rfree:∀j,ld j=false->∀q,R j q=if q=j then 1 else 0
 got:∀p,ld p=true->∃s:Rat,s≠0/\∃u,Sp ld L p u/\∀q,(R p q:Rat)=s*L p q+u q
 bound:∀p q,(R p q).natAbs<=B
variable {B:Nat} {ld:Nat->Bool} {L:Nat->Nat->Rat} {R:Nat->Nat->Int}
theorem Inv.tri (h:Inv B ld L R) {z:Nat->Rat} {t:Nat} (V:∀q,q<t->sumQ (λj=>z j*L j q) t=0):∀j,j<t->z j=0:=by
 intro j;induction j using Nat.strongRecOn with
 | ind j ih=>
  intro I;have J:=V j I;rw[Ba I (λi O U=>?_),h.one]at J
  ·grind
  ·rcases Nat.lt_or_ge i j with hlt|M
   ·rw[ih i hlt O];grind
   ·rw[h.low i j (by omega)];grind
theorem Inv.row (h:Inv B ld L R) (p:Nat):∃s:Rat,s≠0/\∃u,Sp ld L p u/\∀q,(R p q:Rat)=s*L p q+u q:=by
 cases hl:ld p with
 | true=>exact h.got p hl
 | false=>
  refine⟨1,by grind,λ_=>0,Sp.nil _ _ _,λq=>?_⟩;rw[h.rfree p hl,h.free p hl];by_cases e:q=p
  ·simp only[if_pos e];grind
  ·simp only[if_neg e];grind
theorem Inv.comb (h:Inv B ld L R) (m:Nat->Rat) (t:Nat):∃z:Nat->Rat,∀q,sumQ (λp=>m p*(R p q:Rat)) t=sumQ (λj=>z j*L j q) t:=by
 induction t with
 | zero=>exact⟨λ_=>0,λq=>rfl⟩
 | succ t ih=>
  obtain⟨z,M⟩:=ih;obtain⟨s,_,u,⟨y,_,J⟩,hr⟩:=h.row t;refine⟨λj=>if j=t then m t*s else z j+m t*y j,λq=>?_⟩;dsimp only;rw[sumQ,sumQ,M,hr,J,if_pos rfl]
  have I:sumQ (λj=>(if j=t then m t*s else z j+m t*y j)*L j q) t=sumQ (λj=>z j*L j q) t+m t*sumQ (λj=>y j*L j q) t:=by
   rw[<-Ap,<-Ar];exact Ad λi O=>by rw[if_neg (by omega)];grind
  rw[I];grind
theorem Inv.nonsing (h:Inv B ld L R):∀(t:Nat) (m:Nat->Rat),(∀q,q<t->sumQ (λp=>m p*(R p q:Rat)) t=0)->∀p,p<t->m p=0:=by
 intro t;induction t with
 | zero=>intro m _ p hp;omega
 | succ t ih=>
  intro m U;obtain⟨z,hz⟩:=h.comb m t;obtain⟨s,hs,u,⟨y,_,Y⟩,hr⟩:=h.row t
  have Z:∀q,q<t+1->sumQ (λj=>(if j=t then m t*s else z j+m t*y j)*L j q) (t+1)=0:=λq hq=>by
   have I:=U q hq;rw[sumQ,hz,hr,Y]at I;rw[sumQ,if_pos rfl]
   have V:sumQ (λj=>(if j=t then m t*s else z j+m t*y j)*L j q) t=sumQ (λj=>z j*L j q) t+m t*sumQ (λj=>y j*L j q) t:=by
    rw[<-Ap,<-Ar];exact Ad λi hi=>by rw[if_neg (by omega)];grind
   rw[V];grind
  have M:=h.tri Z t (mJ _);rw[if_pos rfl]at M
  have O:m t=0:=by
   rcases Rat.mul_eq_zero.1 M with J|J
   ·exact J
   ·exact absurd J hs
  intro p hp;by_cases e:p=t
  ·rw[e];exact O
  ·refine ih m (λq hq=>?_) p (by omega)
   have I:=U q (by omega);rw[sumQ,O]at I;grind
theorem Inv.small (h:Inv B ld L R) (v:Nat->Int) (hv:∀q,(v q).natAbs<=B) (t:Nat):
  ∃(m:Int) (k:Nat->Int) (N:Nat->Int),m≠0/\m.natAbs<=cap t B/\(∀p,p<t->(k p).natAbs<=cap t B)/\(∀q,(N q).natAbs<=(t+1)*(B*cap t B)) /\
   (∀q,q<t->N q=0)/\∀q,(N q:Rat)=sumQ (λp=>(k p:Rat)*(R p q:Rat)) t+(m:Rat)*(v q:Rat):=by
 obtain⟨x,⟨i0,bB,I⟩,V,he⟩:=Sie.small t B (λq i=>if i<t then R i q else v q) (λq i _ _=>by
  split
  ·exact h.bound i q
  ·exact hv q)
 have Z:∀q,((sum (λi=>(if i<t then R i q else v q)*x i) (t+1):Int):Rat)=sumQ (λp=>(x p:Rat)*(R p q:Rat)) t+(x t:Rat)*(v q:Rat):=λq=>by
  rw[Yt,sumQ,if_neg (Nat.lt_irrefl t),Rat.intCast_mul]
  have e1:sumQ (λi=>(((if i<t then R i q else v q)*x i:Int):Rat)) t=sumQ (λp=>(x p:Rat)*(R p q:Rat)) t:=
   Ad λi U=>by rw[if_pos U,Rat.intCast_mul];grind
  rw[e1];grind
 refine⟨x t,x,λq=>sum (λi=>(if i<t then R i q else v q)*x i) (t+1),?_,V t (mJ _),λp hp=>V p (by omega),λq=>?_,λq hq=>he q hq,Z⟩
 ·intro Y
  have O:∀q,q<t->sumQ (λp=>(x p:Rat)*(R p q:Rat)) t=0:=λq hq=>by
   have J:=Z q;rw[he q hq,Y]at J;have M:((0:Int):Rat)=0:=rfl;rw[M]at J;grind
  have J:=h.nonsing t (λp=>(x p:Rat)) O;by_cases e:i0=t
  ·rw[e]at I;exact I Y
  ·have M:=J i0 (by omega)
   exact I (by exact_mod_cast M)
 ·have O:∀i,i<t+1->-((B*cap t B:Nat):Int)<=(if i<t then R i q else v q)*x i/\(if i<t then R i q else v q)*x i<=((B*cap t B:Nat):Int):=λi U=>by
   have J:((if i<t then R i q else v q)*x i).natAbs<=B*cap t B:=by
    rw[Int.natAbs_mul];refine Nat.mul_le_mul ?_ (V i U);split
    ·exact h.bound i q
    ·exact hv q
   omega
  have M:=Mj O;have h4:((t+1:Nat):Int)*((B*cap t B:Nat):Int)=(((t+1)*(B*cap t B):Nat):Int):=by rw[<-Int.natCast_mul]
  rw[h4]at M;show(sum (λi=>(if i<t then R i q else v q)*x i) (t+1)).natAbs<=(t+1)*(B*cap t B);omega
theorem Inv.height (h:Inv B ld L R) (v:Nat->Int) (hv:∀q,(v q).natAbs<=B) (r:Nat->Rat) (t:Nat) (u:Nat->Rat) (hu:Sp ld L t u) (he:∀q,(v q:Rat)=r q+u q) (Z:∀q,q<t->r q=0):
  ∃(m:Int) (N:Nat->Int),m≠0/\m.natAbs<=cap t B/\(∀q,(N q).natAbs<=(t+1)*(B*cap t B))/\∀q,(m:Rat)*r q=(N q:Rat):=by
 obtain⟨m,k,N,hm,M,_,J,I,hN⟩:=h.small v hv t;refine⟨m,N,hm,M,J,?_⟩;obtain⟨z,hz⟩:=h.comb (λp=>(k p:Rat)) t;obtain⟨y,_,Y⟩:=hu
 have O:∀q,(N q:Rat) - (m:Rat)*r q=sumQ (λj=>(z j+(m:Rat)*y j)*L j q) t:=λq=>by
  have V:sumQ (λj=>(z j+(m:Rat)*y j)*L j q) t=sumQ (λj=>z j*L j q) t+(m:Rat)*sumQ (λj=>y j*L j q) t:=by
   rw[<-Ap,<-Ar];exact Ad λi U=>by grind
  rw[V,hN,hz,he,Y];grind
 have h1:=h.tri (λq hq=>by
  rw[<-O,Z q hq,I q hq];have:((0:Int):Rat)=0:=rfl;rw[this];grind)
 intro q;have h2:=O q;rw[A4 (λi U=>by rw[h1 i U];grind)]at h2;grind
theorem Inv.coords (h:Inv B ld L R) (v:Nat->Int) (hv:∀q,(v q).natAbs<=B) (n:Nat) (x:Nat->Rat) (u:Nat->Rat) (hu:Sp ld L n u)
  (he:∀q,(v q:Rat)=sumQ (λf=>(if ld f then 0 else x f)*L f q) n+u q):
  ∃(m:Int) (N:Nat->Int),m≠0/\m.natAbs<=cap n B/\(∀f,f<n->(N f).natAbs<=cap n B)/\∀f,f<n->ld f=false->(m:Rat)*x f=(N f:Rat):=by
 obtain⟨m,k,N,hm,aN,aK,_,aD,hN⟩:=h.small v hv n;refine⟨m,λf=>-k f,hm,aN,λf J=>by have:=aK f J;show(-k f).natAbs<=_;omega,?_⟩;obtain⟨y,hy,ey⟩:=hu
 have hc:∀t,t<=n->∃z:Nat->Rat,(∀f,f<t->ld f=false->z f=(k f:Rat))/\∀q,sumQ (λp=>(k p:Rat)*(R p q:Rat)) t=sumQ (λj=>z j*L j q) t:=by
  intro t;induction t with
  | zero=>intro _;exact⟨λ_=>0,λf J=>absurd J (Nat.not_lt_zero _),λq=>rfl⟩
  | succ t ih=>
   intro ht;obtain⟨z,U,O⟩:=ih (by omega);cases M:ld t with
   | false=>
    refine⟨λj=>if j=t then(k t:Rat)else z j,λf J I=>?_,λq=>?_⟩
    ·by_cases e:f=t
     ·simp only[e,if_true]
     ·simp only[if_neg e];exact U f (by omega) I
    ·dsimp only
     rw[sumQ,sumQ,O,if_pos rfl,h.free t M,h.rfree t M];have V:sumQ (λj=>(if j=t then(k t:Rat)else z j)*L j q) t=sumQ (λj=>z j*L j q) t:=Ad λi hi=>by rw[if_neg (by omega)]
     rw[V];by_cases e:q=t
     ·simp only[if_pos e];grind
     ·simp only[if_neg e];grind
   | true=>
    obtain⟨s,_,u',⟨y',bA,Z⟩,hr⟩:=h.got t M;refine⟨λj=>if j=t then(k t:Rat)*s else z j+(k t:Rat)*y' j,λf J I=>?_,λq=>?_⟩
    ·have aX:f≠t:=λe=>by rw[e,M]at I;cases I
     simp only[if_neg aX];rw[U f (by omega) I,bA f (by omega) I];grind
    ·dsimp only
     rw[sumQ,sumQ,O,hr,Z,if_pos rfl]
     have V:sumQ (λj=>(if j=t then(k t:Rat)*s else z j+(k t:Rat)*y' j)*L j q) t=sumQ (λj=>z j*L j q) t+(k t:Rat)*sumQ (λj=>y' j*L j q) t:=by
      rw[<-Ap,<-Ar];exact Ad λi hi=>by rw[if_neg (by omega)];grind
     rw[V];grind
 obtain⟨z,U,O⟩:=hc n (mG _)
 have h1:=h.tri (t:=n) (z:=λj=>z j+(m:Rat)*((if ld j then 0 else x j)+y j)) (λq hq=>by
  have e2:sumQ (λj=>(z j+(m:Rat)*((if ld j then 0 else x j)+y j))*L j q) n=sumQ (λj=>z j*L j q) n+(m:Rat)*(sumQ (λf=>(if ld f then 0 else x f)*L f q) n+sumQ (λj=>y j*L j q) n):=by
   rw[<-Ar,<-Ap,<-Ar];exact Ad λi hi=>by grind
  have Y:=hN q;rw[aD q hq,he,ey,O]at Y;have:((0:Int):Rat)=0:=rfl;rw[this]at Y;rw[e2];exact Y.symm)
 intro f J M;have h2:=h1 f J;rw[U f J M,hy f J M,M]at h2;simp only[Bool.false_eq_true,if_false]at h2;rw[Rat.intCast_neg];grind
end Eli
end Go.Proofs.YtenlbhlllgppmaaGreatDoor
namespace Go.Proofs.YtenlbhlllgppmaaGreatDoor
open Tryz
namespace Eli
open Tryz
open Sie
def val:List (Nat×Rat)->Nat->Rat
 | [],_=>0
 | t :: r,q=>(if q=t.1 then t.2 else 0)+val r q
def Ord (n:Nat):Nat->List (Nat×Rat)->Prop
 | _,[]=>True
 | t,x :: r=>t<=x.1/\x.1<n/\x.2≠0/\Ord n (x.1+1) r
theorem Ord.mono {n:Nat}:∀{t s:Nat} {r:List (Nat×Rat)},Ord n t r->s<=t->Ord n s r
 | _,_,[],_,_=>trivial
 | _,_,_ :: _,h,hs=>⟨mH hs h.1,h.2⟩
theorem Jf {n:Nat}:∀{t:Nat} {r:List (Nat×Rat)},Ord n t r->∀q,q<t->val r q=0
 | _,[],_,_,_=>rfl
 | t,x :: r,h,q,hq=>by
  have I:=h.1;rw[val,if_neg (by omega),Jf h.2.2.2 q (by omega)];grind
theorem Df {n:Nat}:∀{t:Nat} {r:List (Nat×Rat)},Ord n t r->∀x,x∈r->val r x.1=x.2/\t<=x.1/\x.1<n/\x.2≠0
 | _,[],_,_,I=>by cases I
 | t,y :: r,h,x,I=>by
  rcases List.mem_cons.1 I with rfl|I
  ·refine⟨?_,h.1,h.2.1,h.2.2.1⟩
   rw[val,if_pos rfl,Jf h.2.2.2 _ (by omega)];grind
  ·obtain⟨J,U,M,O⟩:=Df h.2.2.2 x I
   have V:=h.1;refine⟨?_,by omega,M,O⟩;rw[val,if_neg (by omega),J];grind
def Za (c:Rat) (p:Nat) (x:Rat) (more:List (Nat×Rat)->List (Nat×Rat)):List (Nat×Rat)->List (Nat×Rat)
 | []=>(p,x) :: more []
 | y :: b=>if p<y.1 then(p,x) :: more (y :: b)else if y.1<p then(y.1,-(c*y.2)) :: Za c p x more b else if x - c*y.2=0 then more b else(p,x - c*y.2) :: more b
def Gq (c:Rat):List (Nat×Rat)->List (Nat×Rat)->List (Nat×Rat)
 | []=>λb=>b.map (λy=>(y.1,-(c*y.2)))
 | x :: a=>Za c x.1 x.2 (Gq c a)
theorem Si (c:Rat):Gq c [] []=[]:=rfl
theorem mrg_left (c:Rat) (x:Nat×Rat) (a:List (Nat×Rat)):Gq c (x :: a) []=x :: Gq c a []:=rfl
theorem mrg_right (c:Rat) (y:Nat×Rat) (b:List (Nat×Rat)):Gq c [] (y :: b)=(y.1,-(c*y.2)) :: Gq c [] b:=rfl
theorem Q5 (c:Rat) (x y:Nat×Rat) (a b:List (Nat×Rat)) (h:x.1<y.1):Gq c (x :: a) (y :: b)=x :: Gq c a (y :: b):=by
 show Za c x.1 x.2 (Gq c a) (y :: b)=_;rw[Za,if_pos h]
theorem Q4 (c:Rat) (x y:Nat×Rat) (a b:List (Nat×Rat)) (h:y.1<x.1):Gq c (x :: a) (y :: b)=(y.1,-(c*y.2)) :: Gq c (x :: a) b:=by
 show Za c x.1 x.2 (Gq c a) (y :: b)=_;rw[Za,if_neg (by omega),if_pos h];rfl
theorem I7 (c:Rat) (x y:Nat×Rat) (a b:List (Nat×Rat)) (h:x.1=y.1) (I:x.2 - c*y.2=0):Gq c (x :: a) (y :: b)=Gq c a b:=by
 show Za c x.1 x.2 (Gq c a) (y :: b)=_;rw[Za,if_neg (by omega),if_neg (by omega),if_pos I]
theorem Nk (c:Rat) (x y:Nat×Rat) (a b:List (Nat×Rat)) (h:x.1=y.1) (I:x.2 - c*y.2≠0):Gq c (x :: a) (y :: b)=(x.1,x.2 - c*y.2) :: Gq c a b:=by
 show Za c x.1 x.2 (Gq c a) (y :: b)=_;rw[Za,if_neg (by omega),if_neg (by omega),if_neg I]
theorem A6 (x:Nat×Rat) (r:List (Nat×Rat)) (q:Nat):val (x :: r) q=(if q=x.1 then x.2 else 0)+val r q:=rfl
theorem Jg (q:Nat):val [] q=0:=rfl
theorem cE (c:Rat) (q:Nat):∀(a b:List (Nat×Rat)),val (Gq c a b) q=val a q - c*val b q:=by
 intro a;induction a with
 | nil=>
  intro b;induction b with
  | nil=>rw[Si,Jg];grind
  | cons y b ih=>
   rw[mrg_right,A6,ih,A6,Jg];dsimp only;split <;> grind
 | cons x a iha=>
  intro b;induction b with
  | nil=>
   rw[mrg_left,A6,iha,A6,Jg];clear iha;grind
  | cons y b ihb=>
   have I:=iha b;have J:=iha (y :: b);clear iha;rw[A6]at ihb J;rcases Nat.lt_trichotomy x.1 y.1 with h|h|h
   ·rw[Q5 c x y a b h,A6,J,A6,A6]
    clear ihb I J;generalize (if q=x.1 then x.2 else 0)=e1;generalize (if q=y.1 then y.2 else 0)=e2;grind
   ·by_cases h0:x.2 - c*y.2=0
    ·rw[I7 c x y a b h h0,I,A6,A6,h]
     clear ihb I J;by_cases e:q=y.1
     ·rw[if_pos e,if_pos e];grind
     ·rw[if_neg e,if_neg e];grind
    ·rw[Nk c x y a b h h0,A6,I,A6,A6,h]
     clear ihb I J;by_cases e:q=y.1
     ·rw[if_pos e,if_pos e];grind
     ·rw[if_neg e,if_neg e];grind
   ·rw[Q4 c x y a b h,A6,ihb,A6,A6]
    clear ihb I J;dsimp only;by_cases e:q=y.1
    ·rw[if_pos e,if_neg (by omega),if_pos e];grind
    ·rw[if_neg e,if_neg e];grind
theorem aY {n:Nat} {c:Rat} (V:c≠0):∀(a b:List (Nat×Rat)) (t:Nat),Ord n t a->Ord n t b->Ord n t (Gq c a b):=by
 have M:∀y:Rat,y≠0->-(c*y)≠0:=λy Y h=>by
  have U:c*y=0:=by grind
  rcases Rat.mul_eq_zero.1 U with O|O
  ·exact V O
  ·exact Y O
 intro a;induction a with
 | nil=>
  intro b;induction b with
  | nil=>intro t _ _;exact trivial
  | cons y b ih=>intro t I J;rw[mrg_right];exact⟨J.1,J.2.1,M _ J.2.2.1,ih _ trivial J.2.2.2⟩
 | cons x a iha=>
  intro b;induction b with
  | nil=>intro t I J;rw[mrg_left];exact⟨I.1,I.2.1,I.2.2.1,iha [] _ I.2.2.2 trivial⟩
  | cons y b ihb=>
   intro t I J;rcases Nat.lt_trichotomy x.1 y.1 with h|h|h
   ·rw[Q5 c x y a b h];exact⟨I.1,I.2.1,I.2.2.1,iha _ _ I.2.2.2 ⟨h,J.2⟩⟩
   ·by_cases h0:x.2 - c*y.2=0
    ·rw[I7 c x y a b h h0]
     have U:=I.1;exact(iha b (x.1+1) I.2.2.2 (h▸J.2.2.2)).mono (by omega)
    ·rw[Nk c x y a b h h0]
     exact⟨I.1,I.2.1,h0,iha b (x.1+1) I.2.2.2 (h▸J.2.2.2)⟩
   ·rw[Q4 c x y a b h]
    exact⟨J.1,J.2.1,M _ J.2.2.1,ihb (y.1+1) ⟨h,I.2⟩ J.2.2.2⟩
def Zy (f:Nat->Int):Nat->List (Nat×Rat)
 | 0=>[]
 | n+1=>if f n=0 then Zy f n else Zy f n++[(n,(f n:Rat))]
theorem Kz (a b:List (Nat×Rat)) (q:Nat):val (a++b) q=val a q+val b q:=by
 induction a with
 | nil=>rw[List.nil_append,val];grind
 | cons x a ih=>rw[List.cons_append,val,val,ih];grind
theorem Kj {n:Nat} {c:Rat} (hn:0<n) (I:c≠0):∀(a:List (Nat×Rat)) (t:Nat),Ord (n - 1) t a->t<=n - 1->Ord n t (a++[(n - 1,c)])
 | [],t,_,ht=>⟨ht,by dsimp only;omega,I,trivial⟩
 | x :: a,t,h,ht=>⟨h.1,by have:=h.2.1;omega,h.2.2.1,Kj hn I a _ h.2.2.2 (by have:=h.2.1;omega)⟩
theorem Ord.wide {n I:Nat} (hn:n<=I):∀{t:Nat} {r:List (Nat×Rat)},Ord n t r->Ord I t r
 | _,[],_=>trivial
 | _,_ :: _,h=>⟨h.1,by have:=h.2.1;omega,h.2.2.1,Ord.wide hn h.2.2.2⟩
theorem So (f:Nat->Int) (n:Nat):Ord n 0 (Zy f n):=by
 induction n with
 | zero=>exact trivial
 | succ n ih=>
  rw[Zy];split
  ·exact ih.wide (Nat.le_succ _)
  ·rename_i h
   exact Kj (n:=n+1) (Nat.succ_pos _) (by intro I;exact h (by exact_mod_cast I)) _ 0 ih (Nat.zero_le _)
theorem cH (f:Nat->Int) (n q:Nat):val (Zy f n) q=if q<n then(f q:Rat)else 0:=by
 induction n with
 | zero=>rfl
 | succ n ih=>
  rw[Zy];by_cases h:f n=0
  ·rw[if_pos h,ih]
   by_cases h1:q<n
   ·rw[if_pos h1,if_pos (by omega)]
   ·rw[if_neg h1]
    by_cases h2:q=n
    ·rw[if_pos (by omega),h2,h];rfl
    ·rw[if_neg (by omega)]
  ·rw[if_neg h,Kz,ih,val,val]
   by_cases h2:q=n
   ·rw[if_neg (by omega),if_pos h2,if_pos (by omega),h2];grind
   ·rw[if_neg h2]
    by_cases h1:q<n
    ·rw[if_pos h1,if_pos (by omega)];grind
    ·rw[if_neg h1,if_neg (by omega)];grind
def Rb (leads:Nat->List (Nat×Rat)):List (Nat×Rat)->List (Nat×Rat)
 | []=>[]
 | x :: r=>if leads x.1=[]then x :: r else Gq x.2 (x :: r) (leads x.1)
def Et (leads:Nat->List (Nat×Rat)):Nat->List (Nat×Rat)->List (Nat×Rat)
 | 0,r=>r
 | k+1,r=>Rb leads (Et leads k r)
def scl:List (Nat×Rat)->List (Nat×Rat)
 | []=>[]
 | x :: r=>(x :: r).map (λy=>(y.1,1 / x.2*y.2))
def put (leads:Nat->List (Nat×Rat)) (r:List (Nat×Rat)):Nat->List (Nat×Rat):=
 match r with
 | []=>leads
 | x :: r=>λj=>if j=x.1 then scl (x :: r)else leads j
def elim (n:Nat) (rows:Nat->Nat->Int):Nat->Nat->List (Nat×Rat)
 | 0=>λ_=>[]
 | i+1=>put (elim n rows i) (Et (elim n rows i) n (Zy (rows i) n))
def ldOf (leads:Nat->List (Nat×Rat)) (j:Nat):Bool:=!(leads j).isEmpty
def rowOf (leads:Nat->List (Nat×Rat)) (j q:Nat):Rat:=if ldOf leads j then val (leads j) q else if q=j then 1 else 0
theorem Bz {leads:Nat->List (Nat×Rat)} {j:Nat} (h:leads j=[]):ldOf leads j=false:=by rw[ldOf,h];rfl
theorem Ct {leads:Nat->List (Nat×Rat)} {j:Nat} (h:leads j≠[]):ldOf leads j=true:=by
 rw[ldOf];cases e:leads j with
 | nil=>exact absurd e h
 | cons x r=>rfl
def top (n B:Nat):Nat:=nd ((n+1)*(B*cap n B)+cap n B)
structure Good (n B:Nat) (leads:Nat->List (Nat×Rat)):Prop where
 inv:∃R,Inv B (ldOf leads) (rowOf leads) R
 ord:∀j,Ord n j (leads j)
 head:∀j,leads j=[]∨∃r,leads j=(j,1) :: r
 size:∀j x,x∈leads j->hq x.2<=top n B
def RowOk (n:Nat) (leads:Nat->List (Nat×Rat)) (v:Nat->Int) (t:Nat) (r:List (Nat×Rat)):Prop:=
 Ord n t r/\∃u,Sp (ldOf leads) (rowOf leads) t u/\∀q,(v q:Rat)=val r q+u q
theorem J1 {t n B:Nat} (h:t<=n):cap t B<=cap n B:=by
 have I:2*(t+1)*B+1<=2*(n+1)*B+1:=by
  have:=Nat.mul_le_mul_right B (show 2*(t+1)<=2*(n+1)by omega);omega
 exact mH (Nat.pow_le_pow_left I t) (Nat.pow_le_pow_right (Nat.succ_pos _) h)
theorem Ja {n B t k:Nat} (J:t<=n) (I:k<=(t+1)*(B*cap t B)):nd k<=top n B:=by
 refine Bm (mH I (mH ?_ (Nat.le_add_right _ _)));exact Nat.mul_le_mul (by omega) (Nat.mul_le_mul_left _ (J1 J))
theorem Fu {n B t k:Nat} (J:t<=n) (I:k<=cap t B):nd k<=top n B:=
 Bm (mH I (mH (J1 J) (Nat.le_add_left _ _)))
theorem Dq {m N:Int} {r:Rat} (I:m≠0) (h:(m:Rat)*r=(N:Rat)):r=Rat.divInt N m:=by
 have J:(m:Rat)≠0:=λe=>I (by exact_mod_cast e)
 rw[Rat.divInt_eq_div];grind
theorem Ord.top {n:Nat}:∀{t:Nat} {r:List (Nat×Rat)},Ord n t r->n<=t->r=[]
 | _,[],_,_=>rfl
 | _,x :: r,h,ht=>by have I:=h.1;have J:=h.2.1;omega
theorem RowOk.size {n B:Nat} {leads:Nat->List (Nat×Rat)} {v:Nat->Int} {t:Nat} {r:List (Nat×Rat)} (hr:RowOk n leads v t r) (h:Good n B leads) (hv:∀q,(v q).natAbs<=B):
  (∀x,x∈r->hq x.2<=top n B)/\∀x y,x∈r->y∈r->hq (1 / x.2*y.2)<=top n B:=by
 obtain⟨R,hi⟩:=h.inv;obtain⟨M,u,hu,he⟩:=hr;by_cases ht:n<=t
 ·rw[M.top ht]
  refine⟨λx J=>?_,λx y J _=>?_⟩ <;> cases J
 ·obtain⟨m,N,Y,Z,V,U⟩:=hi.height v hv (val r) t u hu he (Jf M)
  have aD:(m:Rat)≠0:=λe=>Y (by exact_mod_cast e)
  refine⟨λx J=>?_,λx y J hy=>?_⟩
  ·have I:=U x.1
   rw[(Df M x J).1]at I;rw[Dq Y I];exact Cz Y (Ja (by omega) (V _)) (Fu (by omega) Z)
  ·have I:=U x.1
   have h2:=U y.1;obtain⟨e1,_,_,h4⟩:=Df M x J;rw[e1]at I;rw[(Df M y hy).1]at h2
   have h3:N x.1≠0:=λe=>by
    rw[e]at I;rcases Rat.mul_eq_zero.1 (I.trans rfl)with O|O
    ·exact aD O
    ·exact h4 O
   have h6:(N x.1:Rat)*(1 / x.2*y.2)=(N y.1:Rat):=by rw[<-I,<-h2];grind
   rw[Dq h3 h6];exact Cz h3 (Ja (by omega) (V _)) (Ja (by omega) (V _))
theorem RowOk.first (n:Nat) (leads:Nat->List (Nat×Rat)) (v:Nat->Int) (I:∀q,n<=q->v q=0):RowOk n leads v 0 (Zy v n):=by
 refine⟨So v n,λ_=>0,Sp.nil _ _ _,λq=>?_⟩;rw[cH];by_cases h:q<n
 ·rw[if_pos h];grind
 ·rw[if_neg h,I q (by omega)]
  have:((0:Int):Rat)=0:=rfl;rw[this];grind
theorem RowOk.step {n B:Nat} {leads:Nat->List (Nat×Rat)} {v:Nat->Int} {t:Nat} {x:Nat×Rat} {r:List (Nat×Rat)} (hr:RowOk n leads v t (x :: r)) (h:Good n B leads) (J:leads x.1≠[]):
  RowOk n leads v (x.1+1) (Rb leads (x :: r))/\Rb leads (x :: r)=Gq x.2 (x :: r) (leads x.1)/\∃b,leads x.1=(x.1,1) :: b/\Gq x.2 (x :: r) (leads x.1)=Gq x.2 r b:=by
 obtain⟨U,u,hu,Z⟩:=hr;obtain⟨b,O⟩:=(h.head x.1).resolve_left J;have M:Rb leads (x :: r)=Gq x.2 (x :: r) (leads x.1):=by rw[Rb,if_neg J]
 have V:Gq x.2 (x :: r) (leads x.1)=Gq x.2 r b:=by rw[O];exact I7 _ _ _ _ _ rfl (by grind)
 have I:=h.ord x.1;rw[O]at I;have h1:=U.1;refine⟨⟨?_,λq=>u q+x.2*rowOf leads x.1 q,(hu.mono (by omega)).combine _ (Sp.lead (mJ _) (Ct J)),λq=>?_⟩,M,b,O,V⟩
 ·rw[M,V]
  exact aY U.2.2.1 _ _ _ U.2.2.2 I.2.2.2
 ·have Y:rowOf leads x.1 q=val (leads x.1) q:=by rw[rowOf,Ct J];rfl
  show(v q:Rat)=val (Rb leads (x :: r)) q+(u q+x.2*rowOf leads x.1 q)
  rw[M,cE,Z,Y];grind
theorem Ih {leads:Nat->List (Nat×Rat)} {x:Nat×Rat} {r:List (Nat×Rat)} (I:leads x.1=[]):Rb leads (x :: r)=x :: r:=by rw[Rb,if_pos I]
theorem RowOk.steps {n B:Nat} {leads:Nat->List (Nat×Rat)} {v:Nat->Int} {r:List (Nat×Rat)} (hr:RowOk n leads v 0 r) (h:Good n B leads) (k:Nat):
  ∃t,RowOk n leads v t (Et leads k r)/\(k<=t∨Rb leads (Et leads k r)=Et leads k r):=by
 induction k with
 | zero=>exact⟨0,hr,.inl (mG _)⟩
 | succ k ih=>
  obtain⟨t,I,J⟩:=ih;rw[Et];rcases J with J|J
  ·cases e:Et leads k r with
   | nil=>exact⟨t,by rw[e]at I;exact I,.inr rfl⟩
   | cons x r'=>
    rw[e]at I;by_cases hl:leads x.1=[]
    ·rw[Ih hl]
     exact⟨t,I,.inr (Ih hl)⟩
    ·have M:=I.1.1
     exact⟨x.1+1,(I.step h hl).1,.inl (by omega)⟩
  ·rw[J]
   exact⟨t,I,.inr J⟩
theorem Gp {leads:Nat->List (Nat×Rat)} {r:List (Nat×Rat)} {k:Nat} (h:Rb leads (Et leads k r)=Et leads k r) (m:Nat) (I:k<=m):Et leads m r=Et leads k r:=by
 induction m with
 | zero=>obtain rfl:k=0:=by omega
         rfl
 | succ m ih=>
  by_cases e:k=m+1
  ·rw[e]
  ·rw[Et,ih (by omega),h]
theorem RowOk.end_still {n B:Nat} {leads:Nat->List (Nat×Rat)} {v:Nat->Int} {r:List (Nat×Rat)} (hr:RowOk n leads v 0 r) (h:Good n B leads):Rb leads (Et leads n r)=Et leads n r:=by
 obtain⟨t,J,I⟩:=hr.steps h n;rcases I with I|I
 ·rw[J.1.top I];rfl
 ·exact I
theorem Sp.turn {ld ld':Nat->Bool} {L J:Nat->Nat->Rat} {t:Nat} {u:Nat->Rat} (U:Sp ld L t u) (h:∀j,j<t->ld j=true->ld' j=true/\J j=L j):Sp ld' J t u:=by
 obtain⟨z,M,O⟩:=U;refine⟨z,λj I hn=>?_,λq=>?_⟩
 ·cases e:ld j with
  | false=>exact M j I e
  | true=>rw[(h j I e).1]at hn;cases hn
 ·rw[O]
  refine Ad λj I=>?_
  cases e:ld j with
  | false=>rw[M j I e];grind
  | true=>rw[(h j I e).2]
theorem Te (x:Nat×Rat) (r:List (Nat×Rat)) (q:Nat):val (scl (x :: r)) q=1 / x.2*val (x :: r) q:=by
 rw[scl];generalize x :: r=l;induction l with
 | nil=>rw[List.map_nil,val];grind
 | cons y l ih=>
  rw[List.map_cons,val,val,ih];by_cases h:q=y.1
  ·simp only[if_pos h];grind
  ·simp only[if_neg h];grind
theorem Sn {n:Nat} {c:Rat} (J:c≠0):∀{t:Nat} {l:List (Nat×Rat)},Ord n t l->Ord n t (l.map (λy=>(y.1,1 / c*y.2)))
 | _,[],_=>trivial
 | _,y :: l,h=>⟨h.1,h.2.1,λe=>by
   rcases Rat.mul_eq_zero.1 e with I|I
   ·exact J (by grind)
   ·exact h.2.2.1 I,Sn J h.2.2.2⟩
theorem Good.put {n B:Nat} {leads:Nat->List (Nat×Rat)} {v:Nat->Int} {t:Nat} {r:List (Nat×Rat)} (h:Good n B leads) (hr:RowOk n leads v t r) (hv:∀q,(v q).natAbs<=B) (hs:Rb leads r=r):Good n B (Eli.put leads r):=by
 cases r with
 | nil=>exact h
 | cons x r=>
  have bH:leads x.1=[]:=by
   refine Classical.byContradiction λhl=>?_
   obtain⟨⟨ho,_⟩,_⟩:=hr.step h hl;rw[hs]at ho;have:=ho.1;omega
  obtain⟨_,bY⟩:=hr.size h hv;obtain⟨ho,u,hu,he⟩:=hr;obtain⟨R,hi⟩:=h.inv;have hx:=ho.2.2.1;obtain⟨M,bA⟩:∃M,Eli.put leads (x :: r)=M:=⟨_,rfl⟩
  have eP:∀j,M j=if j=x.1 then scl (x :: r)else leads j:=λj=>by rw[<-bA];rfl
  have e1:M x.1=scl (x :: r):=by rw[eP,if_pos rfl]
  have e2:∀j,j≠x.1->M j=leads j:=λj J=>by rw[eP,if_neg J]
  have e3:scl (x :: r)≠[]:=by rw[scl];intro e;cases e
  have V:ldOf M x.1=true:=Ct (by rw[e1];exact e3);have I:∀j,j≠x.1->ldOf M j=ldOf leads j:=λj J=>by rw[ldOf,e2 j J];rfl
  have U:∀j,j≠x.1->rowOf M j=rowOf leads j:=λj J=>by funext q;rw[rowOf,rowOf,I j J,e2 j J]
  have Z:∀q,rowOf M x.1 q=1 / x.2*val (x :: r) q:=λq=>by rw[rowOf,V,if_pos rfl,e1,Te]
  have O:∀t u,Sp (ldOf leads) (rowOf leads) t u->Sp (ldOf M) (rowOf M) t u:=λt u hu=>hu.turn λj _ hl=>by
   have bC:j≠x.1:=λe=>by rw[e,Bz bH]at hl;cases hl
   exact⟨by rw[I j bC];exact hl,U j bC⟩
  have Y:Ord n x.1 (x :: r):=⟨mG _,ho.2⟩
  rw[bA];refine⟨⟨λj=>if j=x.1 then v else R j,?_⟩,λj=>?_,λj=>?_,λj y hy=>?_⟩
  ·constructor
   ·intro j q hq
    by_cases e:j=x.1
    ·subst e;rw[Z,Jf Y q hq];grind
    ·rw[U j e];exact hi.low j q hq
   ·intro j
    by_cases e:j=x.1
    ·subst e;rw[Z,(Df Y x (List.mem_cons_self ..)).1];grind
    ·rw[U j e];exact hi.one j
   ·intro j J q
    have e:j≠x.1:=λe=>by rw[e,V]at J;cases J
    rw[U j e];exact hi.free j (by rw[<-I j e];exact J) q
   ·intro j J q
    have e:j≠x.1:=λe=>by rw[e,V]at J;cases J
    simp only[if_neg e];exact hi.rfree j (by rw[<-I j e];exact J) q
   ·intro p hp
    by_cases e:p=x.1
    ·subst e
     refine⟨x.2,hx,u,(O _ _ (hu.mono ho.1)),λq=>?_⟩;rw[if_pos rfl,he,Z];grind
    ·obtain⟨s,h0,u2,hu2,bG⟩:=hi.got p (by rw[<-I p e];exact hp)
     refine⟨s,h0,u2,O _ _ hu2,λq=>?_⟩;rw[if_neg e,U p e];exact bG q
   ·intro p q
    show((if p=x.1 then v else R p) q).natAbs<=B;split
    ·exact hv q
    ·exact hi.bound p q
  ·by_cases e:j=x.1
   ·subst e;rw[e1,scl];exact Sn hx Y
   ·rw[e2 j e];exact h.ord j
  ·by_cases e:j=x.1
   ·subst e
    refine .inr ⟨r.map (λy=>(y.1,1 / x.2*y.2)),?_⟩;rw[e1,scl,List.map_cons];have:1 / x.2*x.2=1:=by grind
    rw[this]
   ·rw[e2 j e];exact h.head j
  ·by_cases e:j=x.1
   ·subst e
    rw[e1,scl]at hy;obtain⟨z,hz,rfl⟩:=List.mem_map.1 hy;exact bY x z (List.mem_cons_self ..) hz
   ·rw[e2 j e]at hy;exact h.size j y hy
theorem Good.nil {n B:Nat} (hB:1<=B):Good n B (λ_=>[]):=
 ⟨⟨λj q=>if q=j then 1 else 0,by
  have J:∀j,ldOf (λ_=>[]) j=false:=λj=>rfl
  have hr:∀j q,rowOf (λ_=>[]) j q=if q=j then 1 else 0:=λj q=>rfl
  constructor
  ·intro j q hq;rw[hr,if_neg (by omega)]
  ·intro j;rw[hr,if_pos rfl]
  ·intro j _ q;rw[hr]
  ·intro j _ q;rfl
  ·intro p I;rw[J]at I;cases I
  ·intro p q;split
   ·exact hB
   ·exact Nat.zero_le _⟩,λ_=>trivial,λ_=>.inl rfl,λ_ _ M=>by cases M⟩
theorem Good.elim {n B:Nat} {rows:Nat->Nat->Int} (hB:1<=B) (M:∀i q,(rows i q).natAbs<=B) (I:∀i q,n<=q->rows i q=0) (k:Nat):Good n B (elim n rows k):=by
 induction k with
 | zero=>exact Good.nil hB
 | succ k ih=>
  have hr:=RowOk.first n (Eli.elim n rows k) (rows k) (I k)
  obtain⟨t,J,_⟩:=hr.steps ih n;exact ih.put J (M k) (hr.end_still ih)
end Eli
namespace Eli
open Tryz
open Sie
theorem Nf (q:Rat):hq (-q)=hq q:=by rw[hq,hq,Rat.neg_num,Rat.neg_den,Int.natAbs_neg]
theorem Ng:hq 0=1:=by rw[hq];decide
theorem Wu:hq 1=1:=by rw[hq];decide
def D2 (X:Nat->Nat->Rat):List (Nat×Rat)->Nat->Rat
 | [],_=>0
 | t :: r,f=>D2 X r f+-t.2*X t.1 f
def newRow (leads:Nat->List (Nat×Rat)) (X:Nat->Nat->Rat) (j f:Nat):Rat:=
 if leads j=[]then(if f=j then 1 else 0)else D2 X (leads j).tail.reverse f
def Bk (leads:Nat->List (Nat×Rat)) (n:Nat):Nat->Nat->Nat->Rat
 | 0=>λ_ _=>0
 | k+1=>λj=>if j=n - 1 - k then newRow leads (Bk leads n k) j else Bk leads n k j
theorem Ro (X:Nat->Nat->Rat) (a b:List (Nat×Rat)) (f:Nat):D2 X (a++b) f=D2 X a f+D2 X b f:=by
 induction a with
 | nil=>rw[List.nil_append,D2];grind
 | cons x a ih=>rw[List.cons_append,D2,D2,ih];grind
theorem Pt (X:Nat->Nat->Rat) (a:List (Nat×Rat)) (f:Nat):D2 X a.reverse f=D2 X a f:=by
 induction a with
 | nil=>rfl
 | cons x a ih=>rw[List.reverse_cons,Ro,ih,D2,D2,D2];grind
theorem U3 {X Y:Nat->Nat->Rat} {a:List (Nat×Rat)} {f:Nat} (h:∀x,x∈a->X x.1 f=Y x.1 f):D2 X a f=D2 Y a f:=by
 induction a with
 | nil=>rfl
 | cons x a ih=>rw[D2,D2,ih (λy I=>h y (List.mem_cons_of_mem _ I)),h x (List.mem_cons_self ..)]
theorem Lx (leads:Nat->List (Nat×Rat)) (n:Nat) {k m j:Nat} (J:k<=m) (M:m<=n) (I:n - k<=j):Bk leads n m j=Bk leads n k j:=by
 induction m with
 | zero=>obtain rfl:k=0:=by omega
         rfl
 | succ m ih=>
  by_cases e:k=m+1
  ·rw[e]
  ·rw[Bk]
   simp only;rw[if_neg (by omega),ih (by omega) (by omega)]
theorem O0 {n B:Nat} {leads:Nat->List (Nat×Rat)} (h:Good n B leads) {k j:Nat} (Z:n - j<=k) (I:k<=n) (hj:j<n):Bk leads n k j=newRow leads (Bk leads n k) j:=by
 have O:Bk leads n k j=Bk leads n (n - j) j:=Lx leads n Z I (by omega)
 have U:Bk leads n (n - j) j=newRow leads (Bk leads n (n - 1 - j)) j:=by
  have e:n - j=(n - 1 - j)+1:=by omega
  rw[e,Bk];simp only;rw[if_pos (by omega)]
 rw[O,U];funext f;rw[newRow,newRow];split
 ·rfl
 ·rename_i hl
  refine U3 λx J=>?_
  obtain⟨b,Y⟩:=(h.head j).resolve_left hl;have M:=h.ord j;rw[Y]at M J;rw[List.tail_cons,List.mem_reverse]at J;obtain⟨_,V,h4,_⟩:=Df M.2.2.2 x J;dsimp only at V;rw[Lx leads n (k:=n - 1 - j) (m:=k) (by omega) I (by omega)]
theorem J6 {n B:Nat} {leads:Nat->List (Nat×Rat)} (h:Good n B leads) {k j:Nat} (M:n - j<=k) (I:k<=n) (J:j<n) (O:leads j=[]) (f:Nat):Bk leads n k j f=if f=j then 1 else 0:=by
 rw[O0 h M I J,newRow,if_pos O]
theorem We {n B:Nat} {leads:Nat->List (Nat×Rat)} (h:Good n B leads) {k j:Nat} (M:n - j<=k) (I:k<=n) (J:j<n) (O:leads j≠[]) (f:Nat):Bk leads n k j f=D2 (Bk leads n k) (leads j).tail f:=by
 rw[O0 h M I J,newRow,if_neg O,Pt]
def fU (n:Nat) (leads:Nat->List (Nat×Rat)) (X:Nat->Nat->Rat) (j:Nat):Prop:=
 ∃u,Sp (ldOf leads) (rowOf leads) n u/\∀q,(if q=j then(1:Rat)else 0)=sumQ (λf=>(if ldOf leads f then 0 else X j f)*rowOf leads f q) n+u q
theorem Pp {n B:Nat} {leads:Nat->List (Nat×Rat)} (h:Good n B leads) (X:Nat->Nat->Rat):∀(r:List (Nat×Rat)),(∀x,x∈r->fU n leads X x.1) ->
  ∃u,Sp (ldOf leads) (rowOf leads) n u/\∀q,val r q=sumQ (λf=>(if ldOf leads f then 0 else -D2 X r f)*rowOf leads f q) n+u q
 | [],_=>⟨λ_=>0,Sp.nil _ _ _,λq=>by
   rw[val,A4 (λi _=>?_)]
   ·grind
   ·rw[D2];split <;> grind⟩
 | x :: r,hr=>by
  obtain⟨u,U,M⟩:=Pp h X r (λy Y=>hr y (List.mem_cons_of_mem _ Y));obtain⟨w,V,O⟩:=hr x (List.mem_cons_self ..);refine⟨_,U.combine x.2 V,λq=>?_⟩;have I:(if q=x.1 then x.2 else 0)=x.2*(if q=x.1 then(1:Rat)else 0):=by split <;> grind
  have J:sumQ (λf=>(if ldOf leads f then 0 else -D2 X (x :: r) f)*rowOf leads f q) n=x.2*sumQ (λf=>(if ldOf leads f then 0 else X x.1 f)*rowOf leads f q) n+sumQ (λf=>(if ldOf leads f then 0 else -D2 X r f)*rowOf leads f q) n:=by
   rw[<-Ap,<-Ar];refine Ad λf _=>?_
   rw[D2];split <;> grind
  rw[A6,I,O,M,J];grind
theorem Rf {n B:Nat} {leads:Nat->List (Nat×Rat)} (h:Good n B leads):∀(m j:Nat),n - j<=m->j<n->∀k,n - j<=k->k<=n->fU n leads (Bk leads n k) j:=by
 intro m;induction m with
 | zero=>intro j h1 h2;omega
 | succ m ih=>
  intro j hm M k Y I;by_cases hl:leads j=[]
  ·refine⟨λ_=>0,Sp.nil _ _ _,λq=>?_⟩
   rw[Ba M (λi _ Z=>?_)]
   ·have O:rowOf leads j q=if q=j then 1 else 0:=by rw[rowOf,Bz hl];rfl
    have U:(if ldOf leads j=true then(0:Rat)else Bk leads n k j j)=1:=by
     rw[Bz hl];show Bk leads n k j j=1;rw[J6 h Y I M hl,if_pos rfl]
    rw[U,O];clear ih;grind
   ·clear ih
    split
    ·grind
    ·rw[J6 h Y I M hl,if_neg Z];grind
  ·obtain⟨b,V⟩:=(h.head j).resolve_left hl
   have ho:=h.ord j;rw[V]at ho
   obtain⟨u,hu,eu⟩:=Pp h (Bk leads n k) b (λx hx=>by
    obtain⟨_,h1,h2,_⟩:=Df ho.2.2.2 x hx;dsimp only at h1;exact ih x.1 (by omega) h2 k (by omega) I)
   have J:=Sp.lead (L:=rowOf leads) M (Ct hl);refine⟨_,J.combine (-1) hu,λq=>?_⟩;have O:rowOf leads j q=(if q=j then 1 else 0)+val b q:=by rw[rowOf,Ct hl,if_pos rfl,V,A6]
   have U:sumQ (λf=>(if ldOf leads f then 0 else Bk leads n k j f)*rowOf leads f q) n=-sumQ (λf=>(if ldOf leads f then 0 else -D2 (Bk leads n k) b f)*rowOf leads f q) n:=by
    have e3:-sumQ (λf=>(if ldOf leads f then 0 else -D2 (Bk leads n k) b f)*rowOf leads f q) n=-1*sumQ (λf=>(if ldOf leads f then 0 else -D2 (Bk leads n k) b f)*rowOf leads f q) n:=by grind
    rw[e3,<-Ap];refine Ad λf _=>?_
    rw[We h Y I M hl,V,List.tail_cons];split <;> grind
   rw[O,U,eu];grind
theorem O1 {n B:Nat} {leads:Nat->List (Nat×Rat)} (hB:1<=B) (h:Good n B leads) {k j f:Nat} (hk:n - j<=k) (I:k<=n) (hj:j<n) (M:f<n) (hl:leads f=[]):hq (Bk leads n k j f)<=top n B:=by
 obtain⟨R,Z⟩:=h.inv;obtain⟨u,hu,U⟩:=Rf h n j (by omega) hj k hk I;obtain⟨m,N,O,J,Y,V⟩:=Z.coords (λq=>if q=j then 1 else 0) (λq=>by split <;> simp <;> omega) n (Bk leads n k j) u hu (λq=>by rw[<-U];split <;> rfl);rw[Dq O (V f M (Bz hl))];exact Cz O (Fu (mG _) (Y f M)) (Fu (mG _) J)
theorem Pu {X:Nat->Nat->Rat} {K:Nat} {f:Nat}:∀(r:List (Nat×Rat)),(∀x,x∈r->hq x.2<=K)->(∀x,x∈r->hq (X x.1 f)<=K)->hq (D2 X r f)<=1+r.length*(2*K+1)
 | [],_,_=>by rw[D2,Ng];omega
 | x :: r,h1,h2=>by
  have M:=Pu r (λy I=>h1 y (List.mem_cons_of_mem _ I)) (λy I=>h2 y (List.mem_cons_of_mem _ I));have O:=h1 x (List.mem_cons_self ..);have U:=h2 x (List.mem_cons_self ..);have V:=Nc (D2 X r f) (-x.2*X x.1 f);have J:=Cc (-x.2) (X x.1 f);rw[Nf]at J;rw[D2,List.length_cons,Nat.succ_mul];omega
theorem Dp {n:Nat}:∀{t:Nat} {r:List (Nat×Rat)},Ord n t r->r.length<=n - t
 | _,[],_=>Nat.zero_le _
 | _,x :: r,h=>by
  have I:=Dp h.2.2.2;have J:=h.1;have M:=h.2.1;rw[List.length_cons];omega
theorem Ny {n B:Nat} (hn:n<=72) (hB:B<=16777216):top n B<=80:=by
 have I:cap n B<=cap 72 16777216:=by
  refine mH (J1 hn) (Nat.pow_le_pow_left ?_ 72);have:=Nat.mul_le_mul_left (2*(72+1)) hB;omega
 have J:(n+1)*(B*cap n B)+cap n B<=(72+1)*(16777216*cap 72 16777216)+cap 72 16777216:=
  Nat.add_le_add (Nat.mul_le_mul (by omega) (Nat.mul_le_mul hB I)) I
 exact Be.2 (Nat.lt_of_le_of_lt J (by decide +kernel))
def frs (leads:Nat->List (Nat×Rat)) (n:Nat):List Nat:=(List.range n).filter (λj=>(leads j).isEmpty)
theorem C5 (leads:Nat->List (Nat×Rat)) (n:Nat):frs leads (n+1)=if leads n=[]then frs leads n++[n]else frs leads n:=by
 rw[frs,List.range_succ,List.filter_append];by_cases h:leads n=[]
 ·rw[if_pos h,List.filter_cons,h];rfl
 ·rw[if_neg h,List.filter_cons]
  have:(leads n).isEmpty=false:=by cases e:leads n with
   | nil=>exact absurd e h
   | cons x r=>rfl
  rw[this];exact List.append_nil _
theorem G1 {leads:Nat->List (Nat×Rat)} {n j:Nat}:j∈frs leads n↔j<n/\leads j=[]:=by
 rw[frs,List.mem_filter,List.mem_range,List.isEmpty_iff]
theorem Em (leads:Nat->List (Nat×Rat)) (n:Nat):(frs leads n).length<=n:=by
 have:=List.length_filter_le (λj=>(leads j).isEmpty) (List.range n);rw[List.length_range]at this;exact this
theorem Wr (leads:Nat->List (Nat×Rat)) {j n:Nat} (h:j<=n):∃l,frs leads n=frs leads j++l:=by
 induction n with
 | zero=>obtain rfl:j=0:=by omega
         exact⟨[],(List.append_nil _).symm⟩
 | succ n ih=>
  by_cases e:j=n+1
  ·subst e;exact⟨[],(List.append_nil _).symm⟩
  ·obtain⟨l,I⟩:=ih (by omega)
   rw[C5,I];split
   ·exact⟨l++[n],by rw[List.append_assoc]⟩
   ·exact⟨l,rfl⟩
theorem Wq (leads:Nat->List (Nat×Rat)) {j n:Nat} (h:j<n) (I:leads j=[]):(frs leads j).length<(frs leads n).length/\(frs leads n)[(frs leads j).length]?=some j:=by
 obtain⟨l,e⟩:=Wr leads (j:=j+1) (n:=n) h;rw[C5,if_pos I]at e;constructor
 ·rw[e];simp
 ·rw[e];simp
theorem G2 (leads:Nat->List (Nat×Rat)) (n:Nat):(frs leads n).Pairwise (· < ·):=by
 rw[frs];exact List.Pairwise.filter _ List.pairwise_lt_range
end Eli
end Go.Proofs.YtenlbhlllgppmaaGreatDoor
namespace Go.Proofs.YtenlbhlllgppmaaGreatDoor
open Tryz
open Go.RowKit
theorem Ii {P:Program} {W:World} {bC:Array Oper} {o:Oper} {a:Act} {K':Act->World->Prop} {Q:Exit->Act->World->Prop} {E':Prop} (K:Value->Prop) (bY:o.guard=none) (s x:Operand) (t E:TypeId)
  (ho:o.op=.call { callee:=.builtin .append,args:=#[s,x],argTypes:=#[t,t] }) {z:Value} {U J:Nat} (hU:P.underlying t=some (.slice E))
  (V:(P.info? E).map (λi=>(i.zero,i.size,i.bytes))=some (some z,U,J)) (bB:z.cells.size=U) (aK:0<U) (B n:Nat) (v:Value) (xs I:List Value)
  (hs:a.eval s=v) (aD:OwnK K W B E U v n xs) (hx:a.eval x=.slice (some ⟨W.heap.size,0,none⟩) 1 1) (hn:I.length=U) (h1:∀u∈I,u.oneCell'=true)
  (hb:(n+1)*J<=140737488355328) (hm:n+1<=9223372036854775807) (hB:B<=W.heap.size) (bG:∀u∈I,K u) (bH:∀u∈z.cells.toList,K u)
  (h:∀Y w',OwnK K w' B E U Y (n+1) (xs++I)->W.grownBy w' v.ownBlock->(Y.ownBlock=v.ownBlock∨Y.ownBlock=some (W.heap.size+1))->K' (a.put o.dst Y) w'):
  if Region.wanted o (yielded bC a.tmps)=true then Oper.wp P o a (W.alloc (.cells I.toArray E)) K' Q else E':=by
 have hw:Region.wanted o (yielded bC a.tmps)=true:=by simp[Region.wanted,bY]
 rw[if_pos hw];obtain⟨i0,hi,aN,aX,bA⟩:=info_parts V
 have O:∀(j:Nat) (u:Value),I[j]?=some u->(W.alloc (.cells I.toArray E)).cell? ((⟨W.heap.size,0,none⟩:Addr).add j)=some u:=by
  intro j u hu;have hc:=(Blk.new W E I.toArray).cell_ j
  have e:(⟨W.heap.size,0,none⟩:Addr).add j=⟨W.heap.size,j,none⟩:=by
   unfold Addr.add;split
   ·rename_i h0;rw[h0]
   ·simp
  rw[e,hc]
  simpa using hu
 have M:OwnK K (W.alloc (.cells I.toArray E)) B E U v n xs:=aD.keep ((Below.refl _ _).alloc (mG _) _);obtain⟨Y,w',hr,g1,g2,_,Z⟩:=run_append_own_at (P:=P) (W.alloc (.cells I.toArray E)) B t o.type E i0 z U J hU hi aN aX bA bB aK v n xs M.1 ⟨W.heap.size,0,none⟩ 1 1 I (by omega) O h1 hm hb (by simp;omega);have g4:=Ek K (W.alloc (.cells I.toArray E)) B t o.type E i0 z U J hU hi aN aX bA bB aK v n xs M.1 ⟨W.heap.size,0,none⟩ 1 1 I (by omega) O h1 hm hb (by omega) M.2 bG bH hr;unfold Oper.wp execOp;simp only[ho,resolve,invoke,builtin,Sem.run_bind,Sem.run_pure,Result.andThen_ok,List.map_toArray,List.map_cons,List.map_nil,hs,hx,hr];refine h Y w' ⟨g1,g4⟩ (Dn g2) ?_;rcases Z with Z|Z
 ·exact .inl Z
 ·exact .inr (by rw[Z];simp)
theorem I32.putU {w:World} {R:Nat} (M:Stk NotU32 w R) (i:Nat) (u:Value):I32 w (w.setCell ⟨R,i,none⟩ u):=
 ⟨by simp,λg j n e=>by
  have I:R≠g:=λJ=>M.2 j _ (by rw[J];exact e) _ rfl
  rw[World.cell?_setCell_far w ⟨R,i,none⟩ ⟨g,j,none⟩ u I];exact e⟩
theorem Stk.putU {K:Value->Prop} {w:World} {R:Nat} (h:Stk K w R) (p:Addr) (u:Value) (J:K u):Stk K (w.setCell p u) R:=by
 refine⟨by simpa using h.1,λi v I=>?_⟩;by_cases hp:p=⟨R,i,none⟩
 ·cases hc:w.cell? p with
  | none=>
   have:((w.setCell p u).cell? p)=none:=Ev u hc;rw[<-hp,this]at I;cases I
  | some y=>
   rw[<-hp,World.cell?_setCell_same' _ _ _ (by rw[hc];rfl)]at I;injection I with I
   rw[<-I];exact J
 ·rw[World.cell?_setCell_other _ _ _ _ hp]at I
  exact h.2 i v I
def TE (x:Nat×Rat) (w:World) (g i:Nat):Prop:=w.cell? ⟨g,i,none⟩=some (.int .i64 (x.1:Int))/\QE (IsQ x.2) w g (i+1)
theorem TE.keep {x:Nat×Rat} {w w':World} {g i:Nat} (h:TE x w g i) (I:Below w.heap.size w w'):TE x w' g i:=
 ⟨(I.cell (p:=⟨g,i,none⟩) (World.block_lt_of_cell? w ⟨g,i,none⟩ h.1)).trans h.1,h.2.keep (IsQ.solid _) I⟩
theorem TE.next {x:Nat×Rat} {B:Nat} {w w':World} {g i:Nat} (h:TE x w g i) (hg:g<B) (J:I32 w w') (Z:Below B w w'):TE x w' g i:=by
 have I:∀j v,w.cell? ⟨g,j,none⟩=some v->w'.cell? ⟨g,j,none⟩=some v:=λj v e=>(Z.cell (p:=⟨g,j,none⟩) hg).trans e
 obtain⟨e,s,p,n,c,t,q,m,d,M,O,U,V,Y⟩:=h;exact⟨I _ _ e,s,p,n,c,t,q,m,d,I _ _ M,I _ _ O,I _ _ U,I _ _ V,Y.i32 J⟩
def TL (l:List (Nat×Rat)) (w:World) (B:Nat) (v:Value):Prop:=
 (l=[]/\∃a c,v=.slice a 0 c)∨∃g o cap,v=.slice (some ⟨g,o,none⟩) l.length cap/\l.length<=cap/\cap<=9223372036854775807/\g<B/\∀j x,l[j]?=some x->TE x w g (o+j*5)
theorem TL.next {l:List (Nat×Rat)} {w w':World} {B:Nat} {v:Value} (h:TL l w B v) (I:I32 w w') (M:Below B w w'):TL l w' B v:=by
 rcases h with h |⟨g,o,cap,e,O,J,hg,U⟩
 ·exact .inl h
 ·exact .inr ⟨g,o,cap,e,O,J,hg,λj x V=>(U j x V).next hg I M⟩
theorem TL.keep {l:List (Nat×Rat)} {w w':World} {B:Nat} {v:Value} (h:TL l w B v) (hB:B<=w.heap.size) (I:Below w.heap.size w w'):TL l w' B v:=h.next (I32.below I) (I.mono hB)
theorem TL.up {l:List (Nat×Rat)} {w:World} {B B':Nat} {v:Value} (h:TL l w B v) (hB:B<=B'):TL l w B' v:=by
 rcases h with h |⟨g,o,cap,e,J,I,hg,M⟩
 ·exact .inl h
 ·exact .inr ⟨g,o,cap,e,J,I,by omega,M⟩
theorem TL.cons {x:Nat×Rat} {l:List (Nat×Rat)} {w:World} {B:Nat} {v:Value} (h:TL (x :: l) w B v):
  ∃g o cap,v=.slice (some ⟨g,o,none⟩) (l.length+1) (cap+1)/\l.length<=cap/\cap<9223372036854775807/\g<B/\TE x w g o/\TL l w B (.slice (some ⟨g,o+5,none⟩) l.length cap):=by
 rcases h with⟨h,_⟩ |⟨g,o,cap,e,M,O,hg,J⟩
 ·cases h
 ·rw[List.length_cons]at e M
  obtain⟨c,rfl⟩:∃c,cap=c+1:=⟨cap - 1,by omega⟩
  refine⟨g,o,c,e,by omega,by omega,hg,by simpa using J 0 x rfl,.inr ⟨g,o+5,c,rfl,by omega,by omega,hg,λj y U=>?_⟩⟩;have I:=J (j+1) y U;rw[show o+(j+1)*5=o+5+j*5 by omega]at I;exact I
theorem TL.nil {w:World} {B:Nat} {v:Value} (h:TL [] w B v):∃a c,v=.slice a 0 c:=by
 rcases h with⟨_,h⟩ |⟨g,o,cap,e,_⟩
 ·exact h
 ·exact⟨_,_,e⟩
theorem TL.cut {l:List (Nat×Rat)} {w:World} {B:Nat} {a:Option Addr} {cap:Nat} (X:Option Addr) (h:TL l w B (.slice a l.length cap)) (J:l.length<=cap):TL l w B (.slice (if cap=0 then X else a) l.length cap):=by
 by_cases h0:cap=0
 ·rw[if_pos h0]
  have I:l=[]:=List.eq_nil_of_length_eq_zero (by omega);subst I;exact .inl ⟨rfl,_,_,rfl⟩
 ·rw[if_neg h0];exact h
def TX (x:Nat×Rat) (w:World) (xs:List Value) (i:Nat):Prop:=xs[i]?=some (.int .i64 (x.1:Int))/\QX (IsQ x.2) w xs (i+1)
def OwnT (l:List (Nat×Rat)) (w:World) (B:Nat) (v:Value):Prop:=∃xs,OwnK NotU32 w B 110 5 v l.length xs/\∀j x,l[j]?=some x->TX x w xs (j*5)
theorem OwnT.nil (w:World) (B:Nat):OwnT [] w B (.slice none 0 0):=⟨[],OwnK.nil _ _ _ _ _,λj x I=>by simp at I⟩
theorem OwnT.keep {l:List (Nat×Rat)} {w w':World} {B:Nat} {v:Value} (h:OwnT l w B v) (J:Below w.heap.size w w'):OwnT l w' B v:=by
 obtain⟨U,O,I⟩:=h;exact⟨U,O.keep J,λj x M=>⟨(I j x M).1,(I j x M).2.i32 (IsQ.solid _) (I32.below J)⟩⟩
theorem N9 {J M:List Value} {j:Nat} {v:Value} (e:J[j]?=some v):(J++M)[j]?=some v:=by
 rw[List.getElem?_append_left]
 ·exact e
 ·rcases Nat.lt_or_ge j J.length with hlt|I
  ·exact hlt
  ·rw[List.getElem?_eq_none I]at e;cases e
theorem OwnT.push {l:List (Nat×Rat)} {W w':World} {B:Nat} {v Y:Value} {O:List Value} (V:OwnK NotU32 W B 110 5 v l.length O) (h2:∀j x,l[j]?=some x->TX x W O (j*5))
  (a:Nat) (r:Rat) {s t:Bool} {p q:Option Addr} {k c m d:Nat} (hq:Qs W s p k c t q m d r) (h3:OwnK NotU32 w' B 110 5 Y (l.length+1) (O++[.int .i64 (a:Int),.bool s,.slice p k c,.bool t,.slice q m d])) (hg:W.grownBy w' v.ownBlock):OwnT (l++[(a,r)]) w' B Y:=by
 have J:=I32.grown (K:=NotU32) (λx=>Er x) V.2 hg;have M:O.length=l.length*5:=V.1.1;refine⟨_,by rw[List.length_append];exact h3,λj x I=>?_⟩;by_cases hj:j<l.length
 ·rw[List.getElem?_append_left hj]at I
  obtain⟨Z,e1⟩:=h2 j x I;exact⟨N9 Z,(e1.i32 (IsQ.solid _) J).app⟩
 ·rw[List.getElem?_append_right (by omega)]at I
  have U:j=l.length:=by
   rcases Nat.eq_zero_or_pos (j - l.length)with h|h
   ·omega
   ·rw[List.getElem?_eq_none (by rw[List.length_singleton];omega)]at I;cases I
  subst U;rw[Nat.sub_self]at I;injection I with I
  subst I;refine⟨?_,s,p,k,c,t,q,m,d,?_,?_,?_,?_,hq.i32 J⟩
  ·rw[List.getElem?_append_right (by omega),M,show l.length*5 - l.length*5=0 by omega];rfl
  ·rw[List.getElem?_append_right (by omega),M,show l.length*5+1 - l.length*5=1 by omega];rfl
  ·rw[List.getElem?_append_right (by omega),M,show l.length*5+1+1 - l.length*5=2 by omega];rfl
  ·rw[List.getElem?_append_right (by omega),M,show l.length*5+1+2 - l.length*5=3 by omega];rfl
  ·rw[List.getElem?_append_right (by omega),M,show l.length*5+1+3 - l.length*5=4 by omega];rfl
structure TRow (l:List (Nat×Rat)) (w:World) (g:Nat):Prop where
 stk:Stk NotU32 w g
 free:∀i,i<l.length*5->w.frozen? ⟨g,i,none⟩=false
 has:∀i,i<l.length*5->(w.cell? ⟨g,i,none⟩).isSome=true
 val:∀j x,l[j]?=some x->TE x w g (j*5)
theorem OwnT.row {l:List (Nat×Rat)} {w:World} {B:Nat} {v:Value} (h:OwnT l w B v):(l=[]/\v=.slice none 0 0)∨∃g cap,v=.slice (some ⟨g,0,none⟩) l.length cap/\l.length<=cap/\cap<=9223372036854775807/\B<=g/\g<w.heap.size/\TRow l w g:=by
 obtain⟨U,I,h2⟩:=h;rcases I.1.2 with⟨J,Y⟩ |⟨g,cap,cs,J,hB,hg,hn,M,bB,_⟩
 ·exact .inl ⟨List.eq_nil_of_length_eq_zero Y,J⟩
 ·right
  have hl:U.length=l.length*5:=I.1.1;have O:=I.2 g (by rw[J];rfl);subst J;refine⟨g,cap,rfl,hn,by simp only[maxLen]at M;omega,hB,O.1,⟨O,λi _=>?_,λi hi=>?_,λj x hx=>?_⟩⟩
  ·exact Blk.free_ hg i
  ·rw[Aq I.1 (List.getElem?_eq_getElem (by omega:i<U.length))];rfl
  ·obtain⟨V,s,p,n,c,t,q,m,d,Z,f1,f2,f3,f4⟩:=h2 j x hx
   exact⟨Aq I.1 V,s,p,n,c,t,q,m,d,Aq I.1 Z,Aq I.1 f1,Aq I.1 f2,Aq I.1 f3,f4⟩
theorem OwnT.tl {l:List (Nat×Rat)} {w:World} {B:Nat} {v:Value} (h:OwnT l w B v):TL l w w.heap.size v:=by
 rcases h.row with⟨rfl,rfl⟩ |⟨g,cap,rfl,I,J,_,M,O⟩
 ·exact .inl ⟨rfl,_,_,rfl⟩
 ·exact .inr ⟨g,0,cap,rfl,I,J,M,λj x U=>by rw[Nat.zero_add];exact O.val j x U⟩
theorem Ei:(prog.info? 110).map (λi=>(i.zero,i.size,i.bytes))=some (some (.agg #[.int .i64 0,.bool false,.slice none 0 0,.bool false,.slice none 0 0]),5,72):=by kernel_rfl
theorem Ul (a:Int) (s:Bool) (p:Option Addr) (n c:Nat) (t:Bool) (q:Option Addr) (m d:Nat):∀u∈[Value.int .i64 a,.bool s,.slice p n c,.bool t,.slice q m d],u.oneCell'=true:=by
 intro u I;simp at I;rcases I with rfl|rfl|rfl|rfl|rfl <;> rfl
theorem fO (a:Int) (s:Bool) (p:Option Addr) (n c:Nat) (t:Bool) (q:Option Addr) (m d:Nat):∀u∈[Value.int .i64 a,.bool s,.slice p n c,.bool t,.slice q m d],NotU32 u:=by
 intro u I;simp at I;rcases I with rfl|rfl|rfl|rfl|rfl <;> exact λ_ h=>by cases h
theorem Uk:∀u∈(Value.agg #[.int .i64 0,.bool false,.slice none 0 0,.bool false,.slice none 0 0]).cells.toList,NotU32 u:=by
 intro u I;simp[Value.cells]at I;rcases I with rfl|rfl|rfl|rfl|rfl <;> exact λ_ h=>by cases h
end Go.Proofs.YtenlbhlllgppmaaGreatDoor
