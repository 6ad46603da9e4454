/- Path functionals, plain: one that is additive and moved by Gamma0(n) as the classes are is the class by its values at the symbols' paths, and these satisfy the relations. No program in sight. -/
import Derived.Test.YtenlbhlllgppmaaGreatDoorC30
set_option linter.unusedSimpArgs false
set_option maxRecDepth 100000
set_option maxHeartbeats 8000000
namespace Go.Proofs.YtenlbhlllgppmaaGreatDoor
section
open Eli
def mono (i:Nat):Nat->Rat:=λj=>if j=i then 1 else 0
theorem Ky {i wt:Nat} (E:i<wt+1) (a b c d:Int) (l:Nat):subst (mono i) wt a b c d (wt+1) l=(mv i a b c d wt l:Rat):=by
 unfold subst;rw[A6 E]
 ·unfold mono;rw[if_pos rfl,Rat.one_mul]
 ·intro k _ I
  unfold mono;rw[if_neg I,Rat.zero_mul]
structure PF (n wt:Nat) (D:Int) (Φ:(Nat->Rat)->Int×Int->Int×Int->Rat):Prop where
 congr:∀Q Q' u v,(∀j,j<wt+1->Q j=Q' j)->Φ Q u v=Φ Q' u v
 lin:∀(q:Nat->Rat) (f:Nat->Nat->Rat) (m:Nat) u v,Cu u->Cu v->Φ (λj=>sumQ (λi=>q i*f i j) m) u v=sumQ (λi=>q i*Φ (f i) u v) m
 add:∀Q u v z,Cu u->Cu v->Cu z->Φ Q u v+Φ Q v z=Φ Q u z
 move:∀Q (a b c d:Int) (s:Nat) u v,G0 n a b c d->1<=s->s<=n->pun n s=true->(s:Int) % n=d % n->Cu u->Cu v->Φ (subst Q wt d (-b) (-c) a (wt+1)) (img a b c d u) (img a b c d v)=(Pl.kroP D s:Rat)*Φ Q u v
def Io (n:Nat) (γ:Nat->M4):Prop:=∀p,p<(pts n (n*n)).length->(γ p).1*(γ p).2.2.2 - (γ p).2.1*(γ p).2.2.1=1/\(γ p).2.2.1 % n=(((pts n (n*n)).getD p 0 / n:Nat):Int) % n/\(γ p).2.2.2 % n=(((pts n (n*n)).getD p 0 % n:Nat):Int) % n
def Qe (wt m:Nat) (γ:Nat->M4) (Φ:(Nat->Rat)->Int×Int->Int×Int->Rat) (j:Nat):Rat:=
 Φ (subst (mono (j / m)) wt (γ (j % m)).2.2.2 (-(γ (j % m)).2.1) (-(γ (j % m)).2.2.1) (γ (j % m)).1 (wt+1)) (img (γ (j % m)).1 (γ (j % m)).2.1 (γ (j % m)).2.2.1 (γ (j % m)).2.2.2 (0,1)) (img (γ (j % m)).1 (γ (j % m)).2.1 (γ (j % m)).2.2.1 (γ (j % m)).2.2.2 (1,0))
theorem Vo (Q:Nat->Rat) (wt j:Nat) (I:j<wt+1):subst Q wt 1 0 0 1 (wt+1) j=Q j:=by
 have h:∀i k l,mv i 1 0 0 1 k l=if l=min k i then 1 else 0:=by
  intro i k;induction k with
  | zero=>intro l;rw[mv,Nat.zero_min]
  | succ k ih=>
   intro l;rw[mv];split
   ·unfold lin
    rw[ih,ih,Int.zero_mul,Int.add_zero,Int.one_mul];rcases l with _|l
    ·rw[if_neg (Nat.lt_irrefl 0),if_neg (show ¬0=min (k+1) i by omega)]
    ·rw[if_pos (Nat.succ_pos l),Nat.add_sub_cancel]
     by_cases hl:l=min k i
     ·rw[if_pos hl,if_pos (show l+1=min (k+1) i by omega)]
     ·rw[if_neg hl,if_neg (show ¬l+1=min (k+1) i by omega)]
   ·unfold lin
    rw[ih,ih,Int.one_mul];have E:∀z:Int,(if 0<l then(0:Int)*z else 0)=0:=λz=>by split <;> simp
    rw[E,Int.zero_add];by_cases hl:l=min k i
    ·rw[if_pos hl,if_pos (show l=min (k+1) i by omega)]
    ·rw[if_neg hl,if_neg (show ¬l=min (k+1) i by omega)]
 unfold subst;rw[A6 I]
 ·rw[h,if_pos (by omega)]
  show Q j*((1:Int):Rat)=Q j;grind
 ·intro i M J
  rw[h,if_neg (by omega)];show Q i*((0:Int):Rat)=0;grind
section
variable {n wt:Nat} {D:Int} {Φ:(Nat->Rat)->Int×Int->Int×Int->Rat} {γ:Nat->M4}
theorem PF.ph_eq (aK:Pl.check n ((wt:Int)+2) D=0) (J:PF n wt D Φ) (bA:Io n γ) (Q:Nat->Rat) {A B C E:Int} (hd:A*E - B*C=1):
  ph n wt D (Qe wt (pts n (n*n)).length γ Φ) Q A B C E=Φ Q (img A B C E (0,1)) (img A B C E (1,0)):=by
 obtain⟨⟨a1,a2⟩,_⟩:=Pl.check_ok aK;have hn:0<n:=by omega
 obtain⟨p,s,h,h1,h2,h3,h4,h5⟩:=He (D:=D) hn (Db (n:=n) hn hd);obtain⟨m,hm⟩:∃m,(pts n (n*n)).length=m:=⟨_,rfl⟩
 obtain⟨g1,U,V⟩:=bA p h;rw[hm]at h ⊢;obtain⟨⟨a,b,c,d⟩,hg⟩:∃g,γ p=g:=⟨_,rfl⟩
 rw[hg]at g1 U V;dsimp only at g1 U V;have hk:=I9 hn C E;have I:=Ja hn C E;rw[<-h4,Dd hn]at hk;rw[<-h4,De]at I;obtain⟨c0,aD⟩:∃c0,(pts n (n*n)).getD p 0 / n=c0:=⟨_,rfl⟩
 obtain⟨O,aN⟩:∃O,(pts n (n*n)).getD p 0 % n=O:=⟨_,rfl⟩
 rw[aD]at hk U;rw[aN]at I V
 have mC:C % n=((s:Int)*c0) % n:=by
  have e:((s*c0 % n:Nat):Int)=C % n:=by rw[hk];exact Int.toNat_of_nonneg (Int.emod_nonneg _ (by omega))
  rw[<-e];push_cast;rfl
 have mE:E % n=((s:Int)*O) % n:=by
  have e:((s*O % n:Nat):Int)=E % n:=by rw[I];exact Int.toNat_of_nonneg (Int.emod_nonneg _ (by omega))
  rw[<-e];push_cast;rfl
 have dC:(n:Int)∣C - s*c:=by
  refine Int.dvd_of_emod_eq_zero (Int.emod_eq_emod_iff_emod_sub_eq_zero.1 ?_);rw[mC,Int.mul_emod,Int.mul_emod (s:Int) c,U]
 have dE:(n:Int)∣E - s*d:=by
  refine Int.dvd_of_emod_eq_zero (Int.emod_eq_emod_iff_emod_sub_eq_zero.1 ?_);rw[mE,Int.mul_emod,Int.mul_emod (s:Int) d,V]
 have hG:G0 n (A*d - B*c) (-(A*b)+B*a) (C*d - E*c) (-(C*b)+E*a):=by
  refine⟨by grind,?_⟩;have e:C*d - E*c=(C - s*c)*d - (E - s*d)*c:=by grind
  rw[e];exact Int.dvd_sub (Int.dvd_trans dC (Int.dvd_mul_right _ _)) (Int.dvd_trans dE (Int.dvd_mul_right _ _))
 have hs:(s:Int) % n=(-(C*b)+E*a) % n:=by
  refine Int.emod_eq_emod_iff_emod_sub_eq_zero.2 (Int.emod_eq_zero_of_dvd ?_);have e:(s:Int) - (-(C*b)+E*a)=(C - s*c)*b - (E - s*d)*a:=by grind
  rw[e];exact Int.dvd_sub (Int.dvd_trans dC (Int.dvd_mul_right _ _)) (Int.dvd_trans dE (Int.dvd_mul_right _ _))
 have i0:∀x,Cu x->img (A*d - B*c) (-(A*b)+B*a) (C*d - E*c) (-(C*b)+E*a) (img a b c d x)=img A B C E x:=λx hx=>by
  rw[Gz (by omega) (by rw[hG.det];decide) hx,show(A*d - B*c)*a+(-(A*b)+B*a)*c=A by grind,show(A*d - B*c)*b+(-(A*b)+B*a)*d=B by grind,show(C*d - E*c)*a+(-(C*b)+E*a)*c=C by grind,show(C*d - E*c)*b+(-(C*b)+E*a)*d=E by grind]
 have hv:∀i,i<wt+1->(Pl.kroP D s:Rat)*Qe wt m γ Φ (i*m+p)=Φ (subst (mono i) wt E (-B) (-C) A (wt+1)) (img A B C E (0,1)) (img A B C E (1,0)):=λi Z=>by
  have e1:(i*m+p) / m=i:=by rw[Nat.mul_comm,Nat.mul_add_div (by omega),Nat.div_eq_of_lt h,Nat.add_zero]
  have e2:(i*m+p) % m=p:=by rw[Nat.mul_comm,Nat.mul_add_mod,Nat.mod_eq_of_lt h]
  unfold Qe;rw[e1,e2,hg];dsimp only;rw[<-J.move _ _ _ _ _ s _ _ hG h1 h2 h3 hs (Br (by omega) Cu.zero) (Br (by omega) Cu.inf),i0 _ Cu.zero,i0 _ Cu.inf,Lj];congr 2 <;> grind
 unfold ph;rw[h5];unfold cP;dsimp only;rw[hm];have M:sumQ (λi=>subst Q wt A B C E (wt+1) i*(Pl.kroP D s:Rat)*Qe wt m γ Φ (i*m+p)) (wt+1)=sumQ (λi=>subst Q wt A B C E (wt+1) i*Φ (subst (mono i) wt E (-B) (-C) A (wt+1)) (img A B C E (0,1)) (img A B C E (1,0))) (wt+1):=Ac (λi Z=>by rw[<-hv i Z];grind);rw[M,<-J.lin _ _ _ _ _ (Br (by omega) Cu.zero) (Br (by omega) Cu.inf)];refine J.congr _ _ _ _ (λl hl=>?_)
 have e3:sumQ (λi=>subst Q wt A B C E (wt+1) i*subst (mono i) wt E (-B) (-C) A (wt+1) l) (wt+1)=subst (subst Q wt A B C E (wt+1)) wt E (-B) (-C) A (wt+1) l:=by
  show _=sumQ (λi=>subst Q wt A B C E (wt+1) i*(mv i E (-B) (-C) A wt l:Rat)) (wt+1);exact Ac (λi Z=>by rw[Ky Z])
 rw[e3,Lj,show A*E+B * -C=1 by grind,show A * -B+B*A=0 by grind,show C*E+E * -C=0 by grind,show C * -B+E*A=1 by grind];exact Vo Q wt l hl
theorem PF.step_eq (E:Pl.check n ((wt:Int)+2) D=0) (I:PF n wt D Φ) (J:Io n γ) (Q:Nat->Rat) {u v:Int×Int} (M:Cu u) (O:Cu v) (h:Nb u v):
  Aj n wt D (Qe wt (pts n (n*n)).length γ Φ) Q u v=Φ Q u v:=by
 unfold Aj;rcases h with h|h
 ·rw[if_pos h,I.ph_eq E J Q h,Nf (k:=1) (by decide) M (by dsimp only;omega) (by dsimp only;omega),Nf (k:=1) (by decide) O (by dsimp only;omega) (by dsimp only;omega)]
 ·rw[if_neg (by omega),I.ph_eq E J Q (by grind),Nf (k:=-1) (by decide) M (by dsimp only;omega) (by dsimp only;omega),Nf (k:=1) (by decide) O (by dsimp only;omega) (by dsimp only;omega)]
theorem PF.self (I:PF n wt D Φ) (Q:Nat->Rat) {u:Int×Int} (E:Cu u):Φ Q u u=0:=by
 have:=I.add Q u u u E E E;grind
theorem PF.pot_eq (M:Pl.check n ((wt:Int)+2) D=0) (E:PF n wt D Φ) (O:Io n γ) (Q:Nat->Rat) {u v:Int×Int} (Z:Cu u) (h:Cu v):
  Pot (Aj n wt D (Qe wt (pts n (n*n)).length γ Φ) Q) v - Pot (Aj n wt D (Qe wt (pts n (n*n)).length γ Φ) Q) u=Φ Q u v:=by
 obtain⟨st,I⟩:∃st,Aj n wt D (Qe wt (pts n (n*n)).length γ Φ) Q=st:=⟨_,rfl⟩
 have J:∀u,Cu u->Pot st u - Pot st (1,0)=Φ Q (1,0) u:=by
  refine J8 ?_ (λz y hz hy h0 V g2 g3 ih=>?_)
  ·rw[E.self Q Cu.inf];grind
  ·have U:=E.step_eq M O Q hy hz (Nb.symm (.inl V))
   rw[I]at U;rw[Ch (st:=st) V g2 g3,<-E.add Q (1,0) y z Cu.inf hy hz,<-U,<-ih];grind
 rw[I];have k1:=J u Z;have k2:=J v h;have k3:=E.add Q (1,0) u v Cu.inf Z h;grind
theorem So {x:Int×Int} (p q:Int) (hx:Cu x) (h:low p q=x) (I:Int.gcd p q≠0):low (-p) (-q)=x:=by
 obtain⟨k,u,v,hk,hg,J,M,Z,V,_⟩:=Ef I;rw[Z]at h;have E:(u,v)=x:=h;have O:-p=(-k)*x.1:=by rw[<-E,J];grind
 have U:-q=(-k)*x.2:=by rw[<-E,M];grind
 rw[O,U];exact Yf (by omega) hx
theorem PF.rel (aD:Pl.check n ((wt:Int)+2) D=0) (U:PF n wt D Φ) (bB:Io n γ):RelZ n wt D (Qe wt (pts n (n*n)).length γ Φ):=by
 obtain⟨⟨a1,a2⟩,_⟩:=Pl.check_ok aD;have hn:0<n:=by omega
 obtain⟨y,hy⟩:∃y,Qe wt (pts n (n*n)).length γ Φ=y:=⟨_,rfl⟩
 obtain⟨m,Z⟩:∃m,(pts n (n*n)).length=m:=⟨_,rfl⟩
 have aK:∀r,r<(wt+1)*m->∀E I J M:Int,E*M - I*J=1->∃a b c d:Int,γ (r % m)=(a,b,c,d)/\a*d - b*c=1 /\
   sumQ (λk=>(L8 n wt (pts n (n*n)) (Bd n D (pts n (n*n)) n) (r / m) (r % m) (E,I,J,M) k:Rat)*y k) ((wt+1)*m)=Φ (subst (mono (r / m)) wt d (-b) (-c) a (wt+1)) (img (a*E+b*J) (a*I+b*M) (c*E+d*J) (c*I+d*M) (0,1)) (img (a*E+b*J) (a*I+b*M) (c*E+d*J) (c*I+d*M) (1,0)):=by
  intro r hr E I J M cI
  have cS:0<m:=by
   rcases Nat.eq_zero_or_pos m with h|h
   ·rw[h,Nat.mul_zero]at hr;omega
   ·exact h
  have hj:r % m<m:=Nat.mod_lt _ cS;have hi:r / m<wt+1:=Nat.div_lt_of_lt_mul (by rw[Nat.mul_comm];exact hr);obtain⟨p,hp⟩:∃p,r % m=p:=⟨_,rfl⟩
  obtain⟨i,cM⟩:∃i,r / m=i:=⟨_,rfl⟩
  rw[hp]at hj ⊢;rw[cM]at hi ⊢;obtain⟨g1,g2,g3⟩:=bB p (by rw[Z];exact hj);obtain⟨⟨a,b,c,d⟩,hg⟩:∃g,γ p=g:=⟨_,rfl⟩
  rw[hg]at g1 g2 g3;dsimp only at g1 g2 g3;refine⟨a,b,c,d,hg,g1,?_⟩
  have aX:(a*E+b*J)*(c*I+d*M) - (a*I+b*M)*(c*E+d*J)=1:=by
   have:(a*E+b*J)*(c*I+d*M) - (a*I+b*M)*(c*E+d*J)=(a*d - b*c)*(E*M - I*J):=by grind
   rw[this,g1,cI];rfl
  rw[<-U.ph_eq aD bB _ aX,hy]
  have cX:Ao n D (((pts n (n*n)).getD p 0 / n:Nat)*E+((pts n (n*n)).getD p 0 % n:Nat)*J) (((pts n (n*n)).getD p 0 / n:Nat)*I+((pts n (n*n)).getD p 0 % n:Nat)*M)=Ao n D (c*E+d*J) (c*I+d*M):=by
   unfold Ao
   have e:∀z t:Int,((((pts n (n*n)).getD p 0 / n:Nat):Int)*z+(((pts n (n*n)).getD p 0 % n:Nat):Int)*t) % n=(c*z+d*t) % n:=λz t=>by
    rw[Int.add_emod,Int.mul_emod _ z,Int.mul_emod _ t,<-g2,<-g3,<-Int.mul_emod,<-Int.mul_emod,<-Int.add_emod]
   rw[e,e]
  have cT:=Gl (D:=D) aD (Db (n:=n) hn aX);have h6:=Jd (wt:=wt) y (i:=i) (j:=p) cX (λ_=>cT.2);rw[Z]at h6;rw[h6];unfold ph;rw[Lj];unfold cP;refine Ac (λl hl=>?_);dsimp only;rw[<-Ky hi,show d*(a*E+b*J)+-b*(c*E+d*J)=E by grind,show d*(a*I+b*M)+-b*(c*I+d*M)=I by grind,show -c*(a*E+b*J)+a*(c*E+d*J)=J by grind,show -c*(a*I+b*M)+a*(c*I+d*M)=M by grind]
 intro r hr;rw[Z]at hr;rw[hy];unfold Kt Ks;rw[Z];by_cases hlt:r<(wt+1)*m
 ·simp only[if_pos hlt]
  obtain⟨a,b,c,d,hg,h1,h2⟩:=aK r hlt 0 (-1) 1 0 (by decide);rw[show(gTurn:M4)=(0,-1,1,0)from rfl]
  have h3:sumQ (λk=>(((if k=r then 1 else 0)+L8 n wt (pts n (n*n)) (Bd n D (pts n (n*n)) n) (r / m) (r % m) (0,-1,1,0) k:Int):Rat)*y k) ((wt+1)*m)=y r+sumQ (λk=>(L8 n wt (pts n (n*n)) (Bd n D (pts n (n*n)) n) (r / m) (r % m) (0,-1,1,0) k:Rat)*y k) ((wt+1)*m):=by
   rw[<-Jf (n:=n) (x:=y) (by rw[Z];exact hlt),Z,<-As];exact Ac (λk _=>by push_cast;grind)
  rw[h3,h2,<-hy];unfold Qe;rw[Z,hg];dsimp only;have c0:Cu (img a b c d (0,1)):=Br (by omega) Cu.zero;have c1:Cu (img a b c d (1,0)):=Br (by omega) Cu.inf
  have e0:img (a*0+b*1) (a * -1+b*0) (c*0+d*1) (c * -1+d*0) (0,1)=img a b c d (1,0):=by
   have:=So _ _ c1 rfl (Fu (by omega) Cu.inf);unfold img at this ⊢;dsimp only at this ⊢;rw[<-this];congr 1 <;> omega
  have e1:img (a*0+b*1) (a * -1+b*0) (c*0+d*1) (c * -1+d*0) (1,0)=img a b c d (0,1):=by
   unfold img;dsimp only;congr 1 <;> omega
  rw[e0,e1,U.add _ _ _ _ c0 c1 c0,U.self _ c0]
 ·simp only[if_neg hlt]
  obtain⟨O,dC⟩:∃O,r - (wt+1)*m=O:=⟨_,rfl⟩
  rw[dC];have V:O<(wt+1)*m:=by omega
  obtain⟨a,b,c,d,hg,h1,h2⟩:=aK O V 0 (-1) 1 (-1) (by decide);obtain⟨_,_,_,_,bA,_,cF⟩:=aK O V (-1) 1 (-1) 0 (by decide);rw[hg]at bA
  obtain⟨rfl,rfl,rfl,rfl⟩:a=_/\b=_/\c=_/\d=_:=by
   injection bA with q1 q2;injection q2 with q2 q3;injection q3 with q3 q4
   exact⟨q1,q2,q3,q4⟩
  rw[show(gThird:M4)=(0,-1,1,-1)from rfl,show(gTwice:M4)=(-1,1,-1,0)from rfl]
  have h3:sumQ (λk=>(((if k=O then 1 else 0)+L8 n wt (pts n (n*n)) (Bd n D (pts n (n*n)) n) (O / m) (O % m) (0,-1,1,-1) k+L8 n wt (pts n (n*n)) (Bd n D (pts n (n*n)) n) (O / m) (O % m) (-1,1,-1,0) k:Int):Rat)*y k) ((wt+1)*m)=y O+sumQ (λk=>(L8 n wt (pts n (n*n)) (Bd n D (pts n (n*n)) n) (O / m) (O % m) (0,-1,1,-1) k:Rat)*y k) ((wt+1)*m)+sumQ (λk=>(L8 n wt (pts n (n*n)) (Bd n D (pts n (n*n)) n) (O / m) (O % m) (-1,1,-1,0) k:Rat)*y k) ((wt+1)*m):=by
   rw[<-Jf (n:=n) (x:=y) (by rw[Z];exact V),Z,<-As,<-As];exact Ac (λk _=>by push_cast;grind)
  rw[h3,h2,cF,<-hy];unfold Qe;rw[Z,hg];dsimp only;have c0:Cu (img a b c d (0,1)):=Br (by omega) Cu.zero;have c1:Cu (img a b c d (1,0)):=Br (by omega) Cu.inf;have k1:Cu ((1:Int),(1:Int)):=⟨⟨by decide,λh=>absurd h (by decide)⟩,by decide⟩
  have c2:Cu (img a b c d (1,1)):=Br (by omega) k1;have n2:=So _ _ c2 rfl (Fu (by omega) k1)
  have e0:img (a*0+b*1) (a * -1+b * -1) (c*0+d*1) (c * -1+d * -1) (0,1)=img a b c d (1,1):=by
   unfold img at n2 ⊢;dsimp only at n2 ⊢;rw[<-n2];congr 1 <;> omega
  have e1:img (a*0+b*1) (a * -1+b * -1) (c*0+d*1) (c * -1+d * -1) (1,0)=img a b c d (0,1):=by
   unfold img;dsimp only;congr 1 <;> omega
  have e2:img (a * -1+b * -1) (a*1+b*0) (c * -1+d * -1) (c*1+d*0) (0,1)=img a b c d (1,0):=by
   unfold img;dsimp only;congr 1 <;> omega
  have e3:img (a * -1+b * -1) (a*1+b*0) (c * -1+d * -1) (c*1+d*0) (1,0)=img a b c d (1,1):=by
   unfold img at n2 ⊢;dsimp only at n2 ⊢;rw[<-n2];congr 1 <;> omega
  rw[e0,e1,e2,e3];have t1:=U.add (subst (mono (O / m)) wt d (-b) (-c) a (wt+1)) _ _ _ c2 c0 c1;have t2:=U.add (subst (mono (O / m)) wt d (-b) (-c) a (wt+1)) _ _ _ c2 c1 c2;have t3:=U.self (subst (mono (O / m)) wt d (-b) (-c) a (wt+1)) c2;grind
end
theorem Td {n wt:Nat} {D:Int} (I:wt<=22) {f:Nat} (V:f∈frs (Gp n wt D) (cntF n wt)):RelZ n wt D (λj=>B6 (Gp n wt D) (cntF n wt) (cntF n wt) j f):=by
 intro r hr;obtain⟨O,U⟩:=Gw.1 V;have h:=Q2 (Gv I) ((Ly (by omega) (C6 (Ew I)) (Dt _ _) _).1 r hr) O U;rw[<-h];refine Ac (λk Z=>?_);have E:k<cntF n wt:=Z
 have e:Bx (cntF n wt) (I1 n wt D) r k=Kt n wt D r k:=by
  unfold Bx I1;rw[if_pos E]
  have J:(r*cntF n wt+k) / ((wt+1)*(pts n (n*n)).length)=r:=by
   show(r*cntF n wt+k) / cntF n wt=r;rw[Nat.mul_comm,Nat.mul_add_div (by omega),Nat.div_eq_of_lt E,Nat.add_zero]
  have M:(r*cntF n wt+k) % ((wt+1)*(pts n (n*n)).length)=k:=by
   show(r*cntF n wt+k) % cntF n wt=k;rw[Nat.mul_comm,Nat.mul_add_mod,Nat.mod_eq_of_lt E]
  rw[J,M]
 rw[e]
theorem Tj (leads:Nat->List (Nat×Rat)) (g:Nat->Rat):∀n,sumQ (λf=>if ldOf leads f then 0 else g f) n=sumQ (λi=>g ((frs leads n).getD i 0)) (frs leads n).length
 | 0=>rfl
 | n+1=>by
  rw[sumQ,Tj leads g n,Dc];by_cases h:leads n=[]
  ·rw[if_pos h,B7 h,List.length_append,List.length_singleton,sumQ]
   have e:(frs leads n++[n]).getD (frs leads n).length 0=n:=by
    rw[List.getD_eq_getElem?_getD,List.getElem?_append_right (nL _),Nat.sub_self];rfl
   rw[e];congr 1;refine Ac (λi E=>?_);rw[List.getD_eq_getElem?_getD,List.getD_eq_getElem?_getD,List.getElem?_append_left E]
  ·rw[if_neg h,C5 h,if_pos rfl,Rat.add_zero]
theorem iT {n wt:Nat} {D:Int} (hw:wt<=22) {y:Nat->Rat} (hy:RelZ n wt D y) {j:Nat} (U:j<cntF n wt):
  y j=sumQ (λi=>B6 (Gp n wt D) (cntF n wt) (cntF n wt) j ((frs (Gp n wt D) (cntF n wt)).getD i 0)*y ((frs (Gp n wt D) (cntF n wt)).getD i 0)) (frs (Gp n wt D) (cntF n wt)).length:=by
 obtain⟨C,hC⟩:∃C,cntF n wt=C:=⟨_,rfl⟩
 have hg:=Gv (n:=n) (D:=D) hw;have hs:=(Ly (n:=cntF n wt) (by omega) (C6 (Ew (n:=n) (D:=D) hw)) (Dt _ _) (2*cntF n wt)).2
 have hv:∀r,r<2*cntF n wt->sumQ (λq=>(Bx (cntF n wt) (I1 n wt D) r q:Rat)*y q) (cntF n wt)=0:=λr hr=>by
  rw[<-hy r hr];refine Ac (λk M=>?_);have E:k<cntF n wt:=M
  have e:Bx (cntF n wt) (I1 n wt D) r k=Kt n wt D r k:=by
   unfold Bx I1;rw[if_pos E]
   have J:(r*cntF n wt+k) / ((wt+1)*(pts n (n*n)).length)=r:=by
    show(r*cntF n wt+k) / cntF n wt=r;rw[Nat.mul_comm,Nat.mul_add_div (by omega),Nat.div_eq_of_lt E,Nat.add_zero]
   have e2:(r*cntF n wt+k) % ((wt+1)*(pts n (n*n)).length)=k:=by
    show(r*cntF n wt+k) % cntF n wt=k;rw[Nat.mul_comm,Nat.mul_add_mod,Nat.mod_eq_of_lt E]
   rw[J,e2]
  rw[e]
 have I:∀j,ldOf (Gp n wt D) j=true->RSp (Bx (cntF n wt) (I1 n wt D)) (2*cntF n wt) (rowOf (Gp n wt D) j):=hs
 obtain⟨w,⟨z,h,O⟩,e⟩:=Zm hg (cntF n wt) j (by omega) U (cntF n wt) (by omega) (nL _);rw[hC]at hv I hg e O h U ⊢;obtain⟨ld,Z⟩:∃ld,Gp n wt D=ld:=⟨_,rfl⟩
 rw[Z]at I hg e O h ⊢
 have h1:∀l,ldOf ld l=true->sumQ (λq=>rowOf ld l q*y q) C=0:=λl V=>by
  obtain⟨t,ht⟩:=I l V
  have J:sumQ (λq=>rowOf ld l q*y q) C=sumQ (λq=>sumQ (λi=>t i*((Bx C (I1 n wt D) i q:Rat)*y q)) (2*C)) C:=Ac (λq _=>by
   rw[ht q,show sumQ (λi=>t i*(Bx C (I1 n wt D) i q:Rat)) (2*C)*y q=y q*sumQ (λi=>t i*(Bx C (I1 n wt D) i q:Rat)) (2*C)by grind,<-Am];exact Ac (λi _=>by grind))
  rw[J,Cd];refine A7 (λi hi=>?_);rw[Am,hv i hi];grind
 have h2:sumQ (λq=>w q*y q) C=0:=by
  have J:sumQ (λq=>w q*y q) C=sumQ (λq=>sumQ (λl=>z l*(rowOf ld l q*y q)) C) C:=Ac (λq _=>by
   rw[O q,show sumQ (λl=>z l*rowOf ld l q) C*y q=y q*sumQ (λl=>z l*rowOf ld l q) C by grind,<-Am];exact Ac (λi _=>by grind))
  rw[J,Cd];refine A7 (λl V=>?_);rw[Am];cases hb:ldOf ld l with
  | false=>rw[h l V hb];grind
  | true=>rw[h1 l hb];grind
 have h3:y j=sumQ (λq=>(if q=j then(1:Rat)else 0)*y q) C:=by
  rw[A6 U]
  ·rw[if_pos rfl,Rat.one_mul]
  ·intro k _ M
   rw[if_neg M,Rat.zero_mul]
 have h4:sumQ (λq=>(if q=j then(1:Rat)else 0)*y q) C=sumQ (λq=>sumQ (λf=>(if ldOf ld f then 0 else B6 ld C C j f)*(rowOf ld f q*y q)) C) C+sumQ (λq=>w q*y q) C:=by
  rw[<-As];refine Ac (λq hq=>?_);rw[e q,show(sumQ (λf=>(if ldOf ld f then 0 else B6 ld C C j f)*rowOf ld f q) C+w q)*y q=y q*sumQ (λf=>(if ldOf ld f then 0 else B6 ld C C j f)*rowOf ld f q) C+w q*y q by grind,<-Am];congr 1;exact Ac (λi _=>by grind)
 rw[h3,h4,h2,Rat.add_zero,Cd,<-Tj ld (λf=>B6 ld C C j f*y f) C];refine Ac (λf hf=>?_);rw[Am];cases hb:ldOf ld f with
 | true=>simp
 | false=>
  have e5:sumQ (λq=>rowOf ld f q*y q) C=y f:=by
   rw[A6 hf]
   ·unfold rowOf;rw[hb];simp
   ·intro k _ M
    unfold rowOf;rw[hb];simp[M]
  rw[e5];simp
theorem cE {n wt:Nat} {D:Int} (V:wt<=22) {i k:Nat} (E:i<(frs (Gp n wt D) (cntF n wt)).length) (O:k<(frs (Gp n wt D) (cntF n wt)).length):
  B6 (Gp n wt D) (cntF n wt) (cntF n wt) ((frs (Gp n wt D) (cntF n wt)).getD i 0) ((frs (Gp n wt D) (cntF n wt)).getD k 0)=if k=i then 1 else 0:=by
 have U:∀i,i<(frs (Gp n wt D) (cntF n wt)).length->(frs (Gp n wt D) (cntF n wt)).getD i 0∈frs (Gp n wt D) (cntF n wt):=λi E=>Bl E
 obtain⟨J,M⟩:=Gw.1 (U i E);have I:(frs (Gp n wt D) (cntF n wt)).Nodup:=(Gx _ _).imp (λh=>Nat.ne_of_lt h);rw[J7 (Gv V) (by omega) (nL _) J M];by_cases h:k=i
 ·rw[h,if_pos rfl,if_pos rfl]
 ·rw[if_neg h,if_neg (λe=>h (O9 I O E e))]
structure Crd (n wt:Nat) (D:Int) (F:List Nat) (X:Nat->Nat->Rat):Prop where
 rel:∀f,f∈F->RelZ n wt D (λj=>X j f)
 span:∀y,RelZ n wt D y->∀j,j<cntF n wt->y j=sumQ (λi=>X j (F.getD i 0)*y (F.getD i 0)) F.length
 low:∀f,f∈F->f<cntF n wt
 one:∀i k,i<F.length->k<F.length->X (F.getD i 0) (F.getD k 0)=if k=i then 1 else 0
theorem gJ {n wt:Nat} {D:Int} (I:wt<=22):Crd n wt D (frs (Gp n wt D) (cntF n wt)) (B6 (Gp n wt D) (cntF n wt) (cntF n wt)) where
 rel:=λ_ E=>Td I E
 span:=λ_ U _ M=>iT I U M
 low:=λ_ E=>(Gw.1 E).1
 one:=λ_ _ J O=>cE I J O
section
variable {n wt:Nat} {D:Int} {F:List Nat} {X:Nat->Nat->Rat}
theorem S0 (E:Pl.check n ((wt:Int)+2) D=0) (V:Crd n wt D F X) {y:Nat->Rat} (hy:RelZ n wt D y) (Q:Nat->Rat) {a b c d:Int} (h:a*d - b*c=1):
  ph n wt D y Q a b c d=sumQ (λi=>y (F.getD i 0)*ph n wt D (λj=>X j (F.getD i 0)) Q a b c d) F.length:=by
 obtain⟨⟨a1,a2⟩,_⟩:=Pl.check_ok E;have I:=Gl (D:=D) E (Db (n:=n) (by omega) h);unfold ph cP;obtain⟨p,Z⟩:∃p,Ao n D c d=p:=⟨_,rfl⟩
 rw[Z]at I ⊢
 have M:∀i,i<wt+1->y (i*(pts n (n*n)).length+p.1)=sumQ (λk=>X (i*(pts n (n*n)).length+p.1) (F.getD k 0)*y (F.getD k 0)) F.length:=λi J=>V.span y hy _ (by
  have U:i*(pts n (n*n)).length+p.1<(i+1)*(pts n (n*n)).length:=by rw[Nat.succ_mul];have:=I.2;omega
  exact nN U (Nat.mul_le_mul_right _ (by omega)))
 have O:sumQ (λi=>subst Q wt a b c d (wt+1) i*(p.2:Rat)*y (i*(pts n (n*n)).length+p.1)) (wt+1)=sumQ (λi=>sumQ (λk=>y (F.getD k 0)*(subst Q wt a b c d (wt+1) i*(p.2:Rat)*X (i*(pts n (n*n)).length+p.1) (F.getD k 0))) F.length) (wt+1):=Ac (λi J=>by
  rw[M i J,<-Am];exact Ac (λk _=>by grind))
 rw[O,Cd];exact Ac (λk _=>by rw[Am])
theorem Vm (E:Pl.check n ((wt:Int)+2) D=0) (I:Crd n wt D F X) {y:Nat->Rat} (J:RelZ n wt D y) (Q:Nat->Rat) {u v:Int×Int} (h:Nb u v):
  Aj n wt D y Q u v=sumQ (λi=>y (F.getD i 0)*Aj n wt D (λj=>X j (F.getD i 0)) Q u v) F.length:=by
 unfold Aj;rcases h with h|h
 ·simp only[if_pos h]
  exact S0 E I J Q h
 ·have M:¬v.1*u.2 - u.1*v.2=1:=by omega
  simp only[if_neg M];exact S0 E I J Q (by grind)
theorem Fm (st:Int×Int->Int×Int->Rat):Pot st (1,0)=0:=rfl
theorem Pp (I:Pl.check n ((wt:Int)+2) D=0) (O:Crd n wt D F X) {y:Nat->Rat} (U:RelZ n wt D y) (Q:Nat->Rat):∀u,Cu u->Pot (Aj n wt D y Q) u=sumQ (λi=>y (F.getD i 0)*Pot (Aj n wt D (λj=>X j (F.getD i 0)) Q) u) F.length:=by
 refine J8 ?_ (λz t hz h Z E J M V=>?_)
 ·rw[Fm,A7 (λi _=>?_)]
  rw[Fm,Rat.mul_zero]
 ·rw[Ch E J M,V,Vm I O U Q (Nb.symm (.inl E)),<-As]
  exact Ac (λi _=>by rw[Ch (st:=Aj n wt D (λj=>X j (F.getD i 0)) Q) E J M];grind)
theorem PF.coords {Φ:(Nat->Rat)->Int×Int->Int×Int->Rat} {γ:Nat->M4} (E:Pl.check n ((wt:Int)+2) D=0) (M:Crd n wt D F X) (I:PF n wt D Φ) (J:Io n γ) (Q:Nat->Rat) {u v:Int×Int} (O:Cu u) (U:Cu v):
  Φ Q u v=sumQ (λi=>(Pot (Aj n wt D (λj=>X j (F.getD i 0)) Q) v - Pot (Aj n wt D (λj=>X j (F.getD i 0)) Q) u)*Qe wt (pts n (n*n)).length γ Φ (F.getD i 0)) F.length:=by
 have V:=I.rel E J;rw[<-I.pot_eq E J Q O U,Pp E M V Q v U,Pp E M V Q u O]
 have e:∀a b:Nat->Rat,∀m,sumQ a m - sumQ b m=sumQ (λi=>a i - b i) m:=λa b m=>by
  induction m with
  | zero=>show(0:Rat) - 0=0;grind
  | succ m ih=>rw[sumQ,sumQ,sumQ,<-ih];grind
 rw[e];exact Ac (λi _=>by grind)
end
section
variable {n wt:Nat} {D:Int} {x:Nat->Rat}
theorem Kx (q:Nat->Rat) (f:Nat->Nat->Rat) (m:Nat) (a b c d:Int) (l:Nat):
  subst (λj=>sumQ (λi=>q i*f i j) m) wt a b c d (wt+1) l=sumQ (λi=>q i*subst (f i) wt a b c d (wt+1) l) m:=by
 unfold subst
 have E:sumQ (λi=>sumQ (λk=>q k*f k i) m*(mv i a b c d wt l:Rat)) (wt+1)=sumQ (λi=>sumQ (λk=>q k*(f k i*(mv i a b c d wt l:Rat))) m) (wt+1):=Ac (λi _=>by
  rw[show sumQ (λk=>q k*f k i) m*(mv i a b c d wt l:Rat)=(mv i a b c d wt l:Rat)*sumQ (λk=>q k*f k i) m by grind,<-Am];exact Ac (λk _=>by grind))
 rw[E,Cd];exact Ac (λk _=>by rw[Am])
theorem Rx {Q Q':Nat->Rat} (h:∀j,j<wt+1->Q j=Q' j) (a b c d:Int):subst Q wt a b c d (wt+1)=subst Q' wt a b c d (wt+1):=funext λl=>by
 unfold subst;exact Ac (λi E=>by rw[h i E])
theorem Rk (q:Nat->Rat) (f:Nat->Nat->Rat) (m:Nat) (a b c d:Int):ph n wt D x (λj=>sumQ (λi=>q i*f i j) m) a b c d=sumQ (λi=>q i*ph n wt D x (f i) a b c d) m:=by
 unfold ph;rw[<-Mp];unfold cP;exact Ac (λi _=>by rw[Kx])
theorem Zv (q:Nat->Rat) (f:Nat->Nat->Rat) (m:Nat) (u v:Int×Int):Aj n wt D x (λj=>sumQ (λi=>q i*f i j) m) u v=sumQ (λi=>q i*Aj n wt D x (f i) u v) m:=by
 unfold Aj;by_cases h:v.1*u.2 - u.1*v.2=1
 ·simp only[if_pos h];exact Rk q f m _ _ _ _
 ·simp only[if_neg h];exact Rk q f m _ _ _ _
theorem S8 (q:Nat->Rat) (f:Nat->Nat->Rat) (m:Nat):∀u,Cu u->Pot (Aj n wt D x (λj=>sumQ (λi=>q i*f i j) m)) u=sumQ (λi=>q i*Pot (Aj n wt D x (f i)) u) m:=by
 refine J8 ?_ (λz t V U O E I J M=>?_)
 ·rw[Fm,A7 (λi _=>?_)]
  rw[Fm,Rat.mul_zero]
 ·rw[Ch E I J,M,Zv,<-As]
  exact Ac (λi _=>by rw[Ch (st:=Aj n wt D x (f i)) E I J];grind)
noncomputable def clG (n wt:Nat) (D:Int) (x:Nat->Rat) (A B C E:Int) (Q:Nat->Rat) (u v:Int×Int):Rat:=
 Pot (Aj n wt D x (subst Q wt E (-B) (-C) A (wt+1))) (img A B C E v) - Pot (Aj n wt D x (subst Q wt E (-B) (-C) A (wt+1))) (img A B C E u)
end
end
section
open Go.RowKit Eli Tryz
theorem RetP.ok {w w':World} {e:Ending} {n:Nat} {f:Nat->Rat} {X Y:Int×Int} {E:Int} (h:RetP w w' e n f X Y E):
  ∃M O,e=.returned (.tuple #[.agg #[.slice M (if E=0 then n else 0) O,.int .i64 ((if E=0 then X else(0,0)).1),.int .i64 ((if E=0 then X else(0,0)).2),.int .i64 ((if E=0 then Y else(0,0)).1),.int .i64 ((if E=0 then Y else(0,0)).2)],.int .i64 E])/\QL (λj=>IsQ (f j)) w' (.slice M (if E=0 then n else 0) O) (if E=0 then n else 0)/\∀a,M=some a->w.heap.size<=a.block:=by
 rcases h with⟨h,J⟩ |⟨h,g,cap,J,hg,hr⟩
 ·simp only[if_neg h]
  exact⟨none,0,J,.inl ⟨rfl,_,_,rfl⟩,λa I=>by cases I⟩
 ·subst h
  simp only[if_true];exact⟨_,cap,J,hr.ql cap,λa I=>by injection I with I;subst I;exact hg⟩
theorem IsQ.isB {K:Nat} {r:Rat} {w:World} {s:Bool} {p:Option Addr} {n c:Nat} {t:Bool} {q:Option Addr} {m d:Nat} (h:IsQ r w s p n c t q m d) (hr:hq r<=K):IsB K r.num r.den w s p n c t q m d:=
 ⟨h.1.raw,h.2.raw,by have:=Qs.sizes h;omega,by have:=Qs.sizes h;omega⟩
theorem QL.isB {K:Nat} {f:Nat->Rat} {w:World} {v:Value} {n:Nat} (h:QL (λj=>IsQ (f j)) w v n) (hf:∀j,j<n->hq (f j)<=K):QL (λj=>IsB K (f j).num (f j).den) w v n:=by
 rcases h with h |⟨g,o,c,V,Z,h3⟩
 ·exact .inl h
 ·exact .inr ⟨g,o,c,V,Z,λj E=>by
   obtain⟨s,p,k,I,t,q,m,d,J,M,O,U,hx⟩:=h3 j E;exact⟨s,p,k,I,t,q,m,d,J,M,O,U,IsQ.isB hx (hf j E)⟩⟩
theorem Zq (Q:Nat->Rat) (n wt:Nat) (D:Int) (X:Nat->Nat->Rat) (a b:Int×Int) (f:Nat):Vv Q n wt D X a b f (wt+1)=Aj n wt D (λj=>X j f) Q a b:=by
 unfold Aj Vv dT An;split <;> rfl
theorem Vl {n wt:Nat} {D:Int} {X:Nat->Nat->Rat} {f:Nat} {a b:Int×Int} {ch:List (Int×Int)} (I:Pl.check n ((wt:Int)+2) D=0) (V:RelZ n wt D (λj=>X j f)) (h:ChainOk a b ch) (Q:Nat->Rat):
  N4 Q n wt D X ch f (ch.length - 1)=Pot (Aj n wt D (λj=>X j f) Q) b - Pot (Aj n wt D (λj=>X j f) Q) a:=by
 have Z:=P0 (Q:=Q) I V;have E:∀j,j<ch.length->ch[j]?=some (ch.getD j (0,0)):=λj J=>by rw[List.getD_eq_getElem?_getD,List.getElem?_eq_getElem J];rfl
 have M:=Z.chain (λj=>ch.getD j (0,0)) (ch.length - 1) (λj J=>(h.good _ (List.mem_of_getElem? (E j (by have:=h.pos;omega)))).2) (λj J=>h.nb j _ _ (E j (by omega)) (E (j+1) (by omega)));have O:ch.getD 0 (0,0)=a:=by rw[List.getD_eq_getElem?_getD,h.first];rfl
 have U:ch.getD (ch.length - 1) (0,0)=b:=by rw[List.getD_eq_getElem?_getD,h.last];rfl
 rw[O,U]at M;rw[<-M];unfold N4;exact Ac (λj _=>Zq ..)
theorem Ti {a b:Int×Int} (h:Nb a b):(An a b).1.1*(An a b).2.2 - (An a b).1.2*(An a b).2.1=1:=by
 unfold An;split
 ·rename_i h1;dsimp only;grind
 ·rename_i h1
  have E:b.1*a.2 - a.1*b.2=-1:=h.resolve_left h1;dsimp only;grind
theorem Zp {n wt C:Nat} {D:Int} {X:Nat->Nat->Rat} {F:List Nat} {f:Nat} {a b:Int×Int} {ch:List (Int×Int)} {Q:Nat->Rat} (I:Pl.check n ((wt:Int)+2) D=0) (Z:cntF n wt=C) (hQ:∀i,i<wt+1->hq (Q i)<=4000)
  (hX:∀j f,j<C->f∈F->hq (X j f)<=10000) (hf:f∈F) (h:ChainOk a b ch):hq (N4 Q n wt D X ch f (ch.length - 1))<=430000000:=by
 obtain⟨h1,h2,h3,h4,h5,h6⟩:=Ba I;have cD:wt<=22:=by omega
 have E:∀j,j<ch.length->ch[j]?=some (ch.getD j (0,0)):=λj hj=>by rw[List.getD_eq_getElem?_getD,List.getElem?_eq_getElem hj];rfl
 have hT:∀k i,k+1<ch.length->i<wt+1->hq (dT Q n wt D X (ch.getD k (0,0)) (ch.getD (k+1) (0,0)) f i)<=140000:=by
  intro k i hk hi;obtain⟨x,hx⟩:∃x,ch.getD k (0,0)=x:=⟨_,rfl⟩
  obtain⟨y,hy⟩:∃y,ch.getD (k+1) (0,0)=y:=⟨_,rfl⟩
  have O:=E k (by omega);have U:=E (k+1) hk;rw[hx]at O ⊢;rw[hy]at U ⊢;have aK:=h.nb k x y O U;obtain⟨a1,a2,a3,a4⟩:=(h.good x (List.mem_of_getElem? O)).1;obtain⟨b1,b2,b3,b4⟩:=(h.good y (List.mem_of_getElem? U)).1;have hp:=Gl I (Db (n:=n) (by omega) (Ti aK))
  have J:i*(pts n (n*n)).length+(Ao n D (An x y).2.1 (An x y).2.2).1<C:=by
   rw[<-Z];have M:=Nat.mul_le_mul_right (pts n (n*n)).length (show i+1<=wt+1 by omega);rw[Nat.succ_mul]at M;unfold cntF;have:=hp.2;omega
  have cA:hq (subst Q wt (An x y).1.1 (An x y).1.2 (An x y).2.1 (An x y).2.2 (wt+1) i)<=123880:=by
   refine Cm (K:=4000) hQ (Cq ?_ ?_) (Cq ?_ ?_) (Cq ?_ ?_) (Cq ?_ ?_) (by omega) (by omega) <;>(unfold An;split <;>(dsimp only;omega))
  have cB:hq (((Ao n D (An x y).2.1 (An x y).2.2).2:Int):Rat)<=1:=by
   rw[Dw]
   have V:(Ao n D (An x y).2.1 (An x y).2.2).2.natAbs<=1:=by
    rcases Fi (Xz D) n (((An x y).2.1 % n).toNat*n+((An x y).2.2 % n).toNat)with h|h
    ·unfold Ao;rw[h];decide
    ·unfold Ao;omega
   have:nd ((Ao n D (An x y).2.1 (An x y).2.2).2).natAbs<=1:=Bf.2 (by omega);omega
  have cC:=hX _ f J hf;have M:=Ce (subst Q wt (An x y).1.1 (An x y).1.2 (An x y).2.1 (An x y).2.2 (wt+1) i*((Ao n D (An x y).2.1 (An x y).2.2).2:Rat)) (X (i*(pts n (n*n)).length+(Ao n D (An x y).2.1 (An x y).2.2).1) f);have V:=Ce (subst Q wt (An x y).1.1 (An x y).1.2 (An x y).2.1 (An x y).2.2 (wt+1) i) ((Ao n D (An x y).2.1 (An x y).2.2).2:Rat);unfold dT;omega
 have hS:∀k,k+1<ch.length->hq (Vv Q n wt D X (ch.getD k (0,0)) (ch.getD (k+1) (0,0)) f (wt+1))<=3300000:=by
  intro k hk;have M:=C8 (dT Q n wt D X (ch.getD k (0,0)) (ch.getD (k+1) (0,0)) f) 140000 (wt+1) (λq hq=>hT k q hk hq);have V:(wt+1)*(140000+1)<=23*140001:=Nat.mul_le_mul (by omega) (nL _);unfold Vv;omega
 have M:=C8 (λj=>Vv Q n wt D X (ch.getD j (0,0)) (ch.getD (j+1) (0,0)) f (wt+1)) 3300000 (ch.length - 1) (λq hq=>hS q (by omega));have V:(ch.length - 1)*(3300000+1)<=130*3300001:=Nat.mul_le_mul (by have:=h.len;omega) (nL _);unfold N4;omega
def Ez (p q p' q':Int):Int:=if Al p q≠0 then Al p q else Al p' q'
def CoRet (w:World) (w':World) (e:Ending) (p q p' q':Int) (n wt:Nat) (D:Int) (F:List Nat) (X:Nat->Nat->Rat) (Q:Nat->Rat):Prop:=
 ((Al p q≠0∨Al p' q'≠0)/\∃er,(er≠0/\er=Ez p q p' q')/\e=.returned (.tuple #[.slice none 0 0,.int .i64 er])) ∨
 ((Al p q=0/\Al p' q'=0)/\∃g,e=.returned (.tuple #[.slice (some ⟨g,0,none⟩) F.length F.length,.int .i64 0])/\w.heap.size<=g/\QRow (λj=>IsQ (Pot (Aj n wt D (λi=>X i (F.getD j 0)) Q) (p',q') - Pot (Aj n wt D (λi=>X i (F.getD j 0)) Q) (p,q))) w' g F.length F.length/\∀j,j<F.length->hq (Pot (Aj n wt D (λi=>X i (F.getD j 0)) Q) (p',q') - Pot (Aj n wt D (λi=>X i (F.getD j 0)) Q) (p,q))<=430000000)
theorem aQ (M B n wt:Nat) (D:Int) (F:List Nat) (C:Nat) (X:Nat->Nat->Rat) (v:Value) (x y:Nat->Int) (p q p' q':Int) (w:World) (hT:Tab w) (U:Pl.check n ((wt:Int)+2) D=0) (cM:cntF n wt=C) (hF:F.length<=72)
  (aN:ModAt w M B n ((wt:Int)+2) D F C X) (hB:B<=w.heap.size) (hX:∀j f,j<C->f∈F->hq (X j f)<=10000) (hR:∀f,f∈F->RelZ n wt D (λj=>X j f)) (hp:QL (λj=>IsB 4000 (x j) (y j)) w v (wt+1))
  (hE:-9223372036854775808<=p) (hG:p<=9223372036854775807) (hH:-9223372036854775808<=q) (hI:q<=9223372036854775807) (hJ:-9223372036854775808<=p') (hM:p'<=9223372036854775807) (hN:-9223372036854775808<=q') (hO:q'<=9223372036854775807):
  Calls prog 24 #[.pointer (some ⟨M,0,none⟩),.agg #[v,.int .i64 p,.int .i64 q,.int .i64 p',.int .i64 q']] w λe w'=>CoRet w w' e p q p' q' n wt D F X (λi=>Rat.divInt (x i) (y i))/\Below w.heap.size w w':=by
 obtain⟨pv,cv,rfl⟩:∃p c,v=.slice p (wt+1) c:=by
  obtain⟨_,_,_,e',_⟩:=hp.resolve_left (λh=>by omega);exact⟨_,_,e'⟩
 have nW:wt<=22:=by have:=Ba U;omega
 have hD:0<n:=by have:=Ba U;omega
 obtain⟨kk,gU⟩:∃kk,(wt:Int)+2=kk:=⟨_,rfl⟩
 obtain⟨L,hL⟩:∃L,wt+1=L:=⟨_,rfl⟩
 have Z:=Kh (λW=>Da p q W hE hG hH hI);have E:=Kh (λW=>Da p' q' W hJ hM hN hO);have bC:=Kh (λW ha V=>aP p q p' q' W ha V);have gA:=Kh (λW (V:Below w.heap.size w W)=>Mt M B n kk D F C X W (gU▸aN.keep hB V) (nM hB V.size))
 have aD:=Kh (λW gc oc cc ch (V:Below w.heap.size w W) (hg:gc<W.heap.size) (hc:CAt W gc oc ch) (ho:ChainOk (p,q) (p',q') ch)=>Ui M B n wt D F C X ch gc oc cc (.slice pv (wt+1) cv) x y W (hT.below V) U cM hF (aN.keep hB V) (nM hB V.size) hX (hp.keep (λ_=>IsB.solid _ _ _) V) hg (nM ho.len (by decide))
  (λk c hk=>⟨(hc k c hk).1,(hc k c hk).2,by have h:=(ho.good c (List.mem_of_getElem? hk)).1;unfold InC at h;omega⟩)
  (λk a b ha V=>by
   have h:=ho.nb k a b ha V;exact⟨h,(Gl U (Db (a:=(An a b).1.1) (b:=(An a b).1.2) hD (Ti h))).1⟩))
 have HV:=Kh (λch (ho:ChainOk (p,q) (p',q') ch) f (hf:f∈F)=>Vl U (hR f hf) ho (λi=>Rat.divInt (x i) (y i)))
 have mD:=Kh (λch (ho:ChainOk (p,q) (p',q') ch) f (hf:f∈F)=>Zp U cM (λi hi=>by
  obtain⟨_,_,_,_,hr⟩:=hp.resolve_left (λh=>by omega);obtain⟨_,_,_,_,_,_,_,_,_,_,_,_,h5,h6,h7,h8⟩:=hr.2 i hi;exact Gy (by decide) (nM h5.size h7) (nM h6.size h8)) hX hf ho (Q:=λi=>Rat.divInt (x i) (y i)))
 rw[hL]at aD ⊢;have oM:kk - 1=(L:Int):=by omega
 have oN:IntKind.i64.wrap (L:Int)=(L:Int):=IntWalk.i64_in _ (by omega);clear hT aN hB hX hp U cM hF hR nW hD gU hL hE hG hH hI hJ hM hN hO;go_enter func24,ntmps24
 go_upto_region 3 with(fail)
 obtain⟨w0,hP,X0,gL⟩:=bx1 w #[.slice pv L cv,.int .i64 p,.int .i64 q,.int .i64 p',.int .i64 q'] 57;rw[hP];obtain⟨gp,dY⟩:∃x,w.heap.size=x:=⟨_,rfl⟩
 have oD:=Kh dY;rw[dY]at X0 ⊢;have cI:=Kh X0;have bA:=Kh gL;have x0:=X0.at_ 0 rfl;have nS:∀W:World,(Instr.field 23 (.agg #[.int .i64 n,.int .i64 kk,.int .i64 D]) 1).run prog W=.ok (.int .i64 kk) W:=λW=>by kernel_rfl
 clear hP X0 gL dY;refine Lg (λW=>W.cell? ⟨gp,0,none⟩=some (.slice pv L cv)) (λW V=>Av V x0) (λeY hHeld0=>?_);refine Ap 0 ?_;refine Ap 1 ?_;refine Ap 2 ?_;refine Ap 3 ?_;refine Hq 4 rfl (λK hK=>?_);focus(go_simp;refine(gA.1 _ bA.1.drew).mono ?_;rintro e w1 ⟨rfl,gN⟩;have bB:=Kh ((Below.refl _ w0).drew.trans gN:Below w0.heap.size w0 w1);clear gN;(first|with_reducible refine hK.out _ _ ?_ (λhHeld1=>?_) |(go_wp2_with fail;with_reducible refine hK.out _ _ ?_ (λhHeld1=>?_))))
 focus((try dsimp only);exact eY.1 _ bB.1)
 focus(clear hK K;(try simp only[Act.put,Bn,Bp,Bo]))
 refine Ap 5 ?_;refine Ap 6 ?_;refine Le 7 rfl (λK hK=>?_);go_simp
 refine hK.out _ _ ?_;clear hK K
 (try simp only[Act.put,Bn,Bp,Bo])
 have I:=Kh (cI.1.below_ bB.1 cI.1.lt);have gF:=Kh (bA.1.trans (bB.1.mono bA.1.size));clear x0 eY bB hHeld0 hHeld1 gA cI bA nS;have x0:=I.1.at_ 0 rfl;have x1:=I.1.at_ 1 rfl;have x2:=I.1.at_ 2 rfl;have x3:=I.1.at_ 3 rfl;have x4:=I.1.at_ 4 rfl;obtain⟨e1,dC⟩:∃e1,Al p q=e1:=⟨_,rfl⟩
 obtain⟨e2,dE⟩:∃e2,Al p' q'=e2:=⟨_,rfl⟩
 have aK:=Kh dC;have bE:=Kh dE;rw[dC]at Z;rw[dE]at E;clear dC dE;go_wp2_with fail
 refine(Z.1 w1).mono ?_;rintro e w2 ⟨rfl,cS⟩;have J:=Kh (bk I cS);have cD:=bt gF cS;clear x0 x1 x2 x3 x4 cS I gF;by_cases h1:e1=0
 ·have x0:=J.1.at_ 0 rfl
  have x1:=J.1.at_ 1 rfl;have x2:=J.1.at_ 2 rfl;have x3:=J.1.at_ 3 rfl;have x4:=J.1.at_ 4 rfl;have nC:(e1 != 0)=false:=by rw[h1];rfl
  go_wp2_with fail
  refine(E.1 w2).mono ?_;rintro e w3 ⟨rfl,cT⟩;have O:=Kh (bk J cT);have cF:=bt cD cT;clear x0 x1 x2 x3 x4 cT J cD;by_cases h2:e2=0
  ·have x0:=O.1.at_ 0 rfl
   have x1:=O.1.at_ 1 rfl;have x2:=O.1.at_ 2 rfl;have x3:=O.1.at_ 3 rfl;have x4:=O.1.at_ 4 rfl;have nD:(e2 != 0)=false:=by rw[h2];rfl
   go_wp2_with fail
   refine(bC.1 w3 (aK.1.trans h1) (bE.1.trans h2)).mono ?_;rintro e w4 ⟨⟨ch,gc,oc,cc,rfl,hg,bY,eG⟩,cX⟩;have mE:=Kh (bk O cX);have cG:=bt cF cX;have mA:=Kh (aD.1 w4 gc oc cc ch cG.1 hg bY eG);have cC:=Kh eG;clear x0 x1 x2 x3 x4 cX O cF bY hg eG aD bC Z E;have x0:=mE.1.at_ 0 rfl;go_wp2_with fail
   refine mA.1.mono ?_;rintro e w5 ⟨⟨g,rfl,gS,cB⟩,gP⟩
   have HR:=Kh (QRow.congr cB (λj hj=>by
    have nU:j<F.length:=hj;have hf:F.getD j 0∈F:=Bl nU;show IsQ (N4 (λi=>Rat.divInt (x i) (y i)) n wt D X ch (F.getD j 0) (ch.length - 1))=_;rw[HV.1 ch cC.1 _ hf]))
   have mC:=Kh (show ∀j,j<F.length->hq (Pot (Aj n wt D (λi=>X i (F.getD j 0)) (λi=>Rat.divInt (x i) (y i))) (p',q') - Pot (Aj n wt D (λi=>X i (F.getD j 0)) (λi=>Rat.divInt (x i) (y i))) (p,q))<=430000000 from λj hj=>by
    have hf:F.getD j 0∈F:=Bl hj;rw[<-HV.1 ch cC.1 _ hf];exact mD.1 ch cC.1 _ hf)
   have iL:=bt cG gP;have mB:=Kh (nM cG.1.size gS);clear cB gP x0 gS;go_wp2
   (first|go_ret2|go_ret)
   exact⟨.inr ⟨⟨aK.1.trans h1,bE.1.trans h2⟩,g,rfl,mB.1,HR.1,mC.1⟩,iL.1⟩
  ·have nD:(e2 != 0)=true:=by rw[bne_iff_ne];exact h2
   clear aD bC Z E;go_wp2
   (first|go_ret2|go_ret)
   exact⟨.inl ⟨.inr (by rw[bE.1];exact h2),e2,⟨h2,by unfold Ez;rw[aK.1,bE.1,if_neg (by rw[h1];simp)]⟩,rfl⟩,cF.1⟩
 ·have nC:(e1 != 0)=true:=by rw[bne_iff_ne];exact h1
  clear aD bC Z E;go_wp2
  (first|go_ret2|go_ret)
  exact⟨.inl ⟨.inl (by rw[aK.1];exact h1),e1,⟨h1,by unfold Ez;rw[aK.1,if_pos h1]⟩,rfl⟩,cD.1⟩
abbrev aE (B:Nat) (w0 w:World) (b0 b1 b2 b3:Addr):Prop:=w.cell? b0=some (cellOf w b0)/\w.frozen? b0=false/\Sts w b0.block/\w.cell? b1=some (cellOf w b1)/\w.frozen? b1=false/\Sts w b1.block/\w.cell? b2=some (cellOf w b2)/\w.frozen? b2=false/\Sts w b2.block/\w.cell? b3=some (cellOf w b3)/\w.frozen? b3=false/\Sts w b3.block/\Below B w0 w/\B<=w.heap.size
theorem Ll {B:Nat} {w0 w w':World} {E I J M:Addr} (O:Below w.heap.size w w') (h:aE B w0 w E I J M):aE B w0 w' E I J M:=SS.next (B:=B) (w0:=w0) (l:=([]:List (Addr×Value))) (m:=[E,I,J,M]) O h
theorem V5 {B:Nat} {w0 w:World} {E I J M:Addr} (h:aE B w0 w E I J M) {p0 p1 p2 p3:Addr} {u0 u1 u2 u3:Value} (O:NotInt u0) (aD:B<=p0.block) (U:NotInt u1) (aK:B<=p1.block) (V:NotInt u2) (aN:B<=p2.block) (Z:NotInt u3) (aX:B<=p3.block):aE B w0 ((((w.setCell p0 u0).setCell p1 u1).setCell p2 u2).setCell p3 u3) E I J M:=(SS.put (B:=B) (w0:=w0) (l:=([]:List (Addr×Value))) (m:=[E,I,J,M]) (SS.put (B:=B) (w0:=w0) (l:=([]:List (Addr×Value))) (m:=[E,I,J,M]) (SS.put (B:=B) (w0:=w0) (l:=([]:List (Addr×Value))) (m:=[E,I,J,M]) (SS.put (B:=B) (w0:=w0) (l:=([]:List (Addr×Value))) (m:=[E,I,J,M]) h p0 u0 O aD (by simp[*])) p1 u1 U aK (by simp[*])) p2 u2 V aN (by simp[*])) p3 u3 Z aX (by simp[*]))
theorem Xk {n:Int} {d g:Nat} (U:0<d) (hg:Nat.gcd n.natAbs d=g):(Rat.divInt n d).num=Int.tdiv n g/\((Rat.divInt n d).den:Int)=Int.tdiv (d:Int) g:=by
 have J:(0:Int)<(d:Int):=by omega
 have E:Int.gcd n (d:Int)=g:=hg;have V:0<g:=by rw[<-hg];exact Nat.gcd_pos_of_pos_right _ U
 have M:=G9 (n:=n) J;have O:=G8 (n:=n) J;rw[E]at M O;have I:((g:Nat):Int)∣n:=by rw[<-E];exact Int.gcd_dvd_left ..
 rw[M,O];refine⟨?_,?_⟩
 ·rw[Int.tdiv_eq_ediv]
  by_cases hn:0<=n
  ·rw[if_pos (.inl hn),Int.add_zero]
  ·rw[if_pos (.inr I),Int.add_zero]
 ·rw[Int.tdiv_eq_ediv_of_nonneg (by omega)]
theorem Wg (n:Int) (d:Nat) (w:World) (hn:-1000000<=n) (nD:n<=1000000) (hd:0<d) (hM:d<=1000000):
  Calls prog 63 #[.int .i64 n,.int .i64 d] w λe w'=>F6 w' e (Rat.divInt n d)/\Below w.heap.size w w':=by
 obtain⟨g,hg⟩:∃g,Nat.gcd n.natAbs d=g:=⟨_,rfl⟩
 have nC:0<g:=by rw[<-hg];exact Nat.gcd_pos_of_pos_right _ hd
 have nA:g<=d:=by rw[<-hg];exact Nat.gcd_le_right _ hd
 obtain⟨e1,e2⟩:=Xk (n:=n) hd hg;obtain⟨P,hP⟩:∃P,Int.tdiv n (g:Int)=P:=⟨_,rfl⟩
 obtain⟨Q,hQ⟩:∃Q,Int.tdiv (d:Int) (g:Int)=Q:=⟨_,rfl⟩
 have hE:-1000000<=P/\P<=1000000:=by
  have h:(Int.tdiv n (g:Int)).natAbs<=n.natAbs:=by rw[Int.natAbs_tdiv];exact Nat.div_le_self _ _
  rw[hP]at h;omega
 have hG:-1000000<=Q/\Q<=1000000:=by
  have h:(Int.tdiv (d:Int) (g:Int)).natAbs<=(d:Int).natAbs:=by rw[Int.natAbs_tdiv];exact Nat.div_le_self _ _
  rw[hQ]at h;omega
 obtain⟨iL,mA⟩:=hE;obtain⟨mB,mC⟩:=hG;rw[hP]at e1;rw[hQ]at e2;have HE:=Kh (And.intro e1 e2);have gU:=Kh (λJ=>lF P J (by omega) (by omega));have hB:=Kh (λJ=>lF Q J (by omega) (by omega));have HG:=Kh hg;have hN:(if n < -n then -n else n)=(n.natAbs:Int):=by split <;> omega
 have mE:¬((d:Int)<0):=by omega
 clear e1 e2 hg;go_enter func63,ntmps63
 go_wp2_with fail
 obtain⟨w0,eG,X0,eF⟩:=bx1 w #[.bool false,.slice none 0 0,.bool false,.slice none 0 0] 86;rw[eG];have dE:=Kh X0;have cS:=Kh eF;have aK:max n (-n)=(n.natAbs:Int):=by omega
 rw[aK];have gS:=Kh (show n.natAbs<=1000000 by omega);clear eG X0 eF hN aK;go_loopw [5,6] (λx y wr=>∃a b:Nat,x=.int .i64 a/\y=.int .i64 b/\Nat.gcd a b=g/\a<=1000000/\b<=1000000/\∃m,wr=w0.drewN m) (λ_ y _=>(intOf y).toNat)
 case atStart=>exact⟨n.natAbs,d,rfl,rfl,HG.1,gS.1,hM,0,rfl⟩
 case round=>
  obtain⟨a,b,rfl,rfl,Z,ha,hb,m,rfl⟩:=hrel;rcases Nat.eq_zero_or_pos b with rfl|hJ
  ·rw[Nat.gcd_zero_right]at Z
   subst Z;have aD:Below w0.heap.size w0 (w0.drewN m):=Aa (Below.refl _ _) m;generalize w0.drewN m=wq at aD ⊢;have I:=bk dE aD;have U:=Kh I;have V:=bt cS aD;obtain⟨E,bB⟩:∃x,w.heap.size=x:=⟨_,rfl⟩
   rw[bB]at I U ⊢;have cT:=Kh bB;have T0:=Sts.of I (by intro v hv;simp at hv;rcases hv with rfl|rfl|rfl|rfl <;> first|exact NotInt.bool _|exact NotInt.slice _ _ _);have hY:=Kh T0;have nB:E<wq.heap.size:=I.lt;have v1:IntKind.i64.wrap P=P:=IntWalk.i64_in _ (by omega);have v2:IntKind.i64.wrap Q=Q:=IntWalk.i64_in _ (by omega);have e5:((a:Int)==0)=false:=beq_eq_false_iff_ne.2 (by omega);have e6:a≠0:=by omega
   clear aD bB cS dE;go_upto_region 6 with(fail)
   have cX:=Kh (show ∀wb,Below wq.drew.heap.size wq.drew wb->Below wq.heap.size wq wb from λwb hb=>(Below.refl _ wq).drew.trans hb);have dC:=Kh (show ∀wa wb,Below wq.heap.size wq wa->Below wa.heap.size wa wb->Below wq.heap.size wq wb from λwa wb h1 h2=>h1.trans (h2.mono h1.size));have hH:wq.drew.cell? ⟨E,0,none⟩=some (cellOf wq.drew ⟨E,0,none⟩)/\wq.drew.frozen? ⟨E,0,none⟩=false/\Sts wq.drew (E)/\wq.drew.cell? ⟨E,1,none⟩=some (cellOf wq.drew ⟨E,1,none⟩)/\wq.drew.frozen? ⟨E,1,none⟩=false/\Sts wq.drew (E)/\wq.drew.cell? ⟨E,2,none⟩=some (cellOf wq.drew ⟨E,2,none⟩)/\wq.drew.frozen? ⟨E,2,none⟩=false/\Sts wq.drew (E)/\wq.drew.cell? ⟨E,3,none⟩=some (cellOf wq.drew ⟨E,3,none⟩)/\wq.drew.frozen? ⟨E,3,none⟩=false/\Sts wq.drew (E)/\Below 0 wq wq.drew/\0<=wq.drew.heap.size:=Ll (Below.refl _ wq).drew ⟨Ah (by rw[I.at_ 0 rfl];rfl),I.free_ 0,T0,Ah (by rw[I.at_ 1 rfl];rfl),I.free_ 1,T0,Ah (by rw[I.at_ 2 rfl];rfl),I.free_ 2,T0,Ah (by rw[I.at_ 3 rfl];rfl),I.free_ 3,T0,(Below.refl 0 wq),nM (Nat.zero_le _) (Below.size (Below.refl 0 wq))⟩;clear I T0;have M1:True:=trivial
   go_region_held3 (λJ=>J.cell? ⟨E,0,none⟩=some (cellOf J ⟨E,0,none⟩)/\J.frozen? ⟨E,0,none⟩=false/\Sts J (E)/\J.cell? ⟨E,1,none⟩=some (cellOf J ⟨E,1,none⟩)/\J.frozen? ⟨E,1,none⟩=false/\Sts J (E)/\J.cell? ⟨E,2,none⟩=some (cellOf J ⟨E,2,none⟩)/\J.frozen? ⟨E,2,none⟩=false/\Sts J (E)/\J.cell? ⟨E,3,none⟩=some (cellOf J ⟨E,3,none⟩)/\J.frozen? ⟨E,3,none⟩=false/\Sts J (E)/\Below 0 wq J/\0<=J.heap.size)
    (first|with_reducible exact hH|with_reducible assumption |(refine Ll (by with_reducible assumption) ?_;assumption) |(refine V5 ?_ ?_ ?_ ?_ ?_ ?_ ?_ ?_ ?_ <;> first|assumption|exact NotInt.bool _|exact NotInt.slice _ _ _ |(dsimp only;omega) |(simp;done)))
    (first
     |(go_at_call 110;(with_reducible refine(gU.1 _).mono ?_);rintro e w2 ⟨⟨s2,p2,n2,c2,rfl,eP⟩,aN⟩;have M:=Kh (show Below wq.heap.size wq w2 from by first|exact dC.1 _ _ M.1 aN|exact cX.1 _ aN))
     |(go_at_call 110;(with_reducible refine(hB.1 _).mono ?_);rintro e w3 ⟨⟨s3,p3,n3,c3,rfl,eT⟩,aX⟩;have M:=Kh (show Below wq.heap.size wq w3 from by first|exact dC.1 _ _ M.1 aX|exact cX.1 _ aX)))
   all_goals go_wp2
   all_goals first
    |(have bE:Qs w3 s2 p2 n2 c2 s3 p3 n3 c3 (Rat.divInt n d):=⟨by rw[HE.1.1];exact eP.keep aX,by rw[HE.1.2];exact eT⟩
      have X3:=U.1.below_ M.1 U.1.lt
      obtain⟨w9,O⟩:∃w9,(((w3.setCell ⟨E,0,none⟩ (.bool s2)).setCell ⟨E,1,none⟩ (.slice p2 n2 c2)).setCell ⟨E,2,none⟩ (.bool s3)).setCell ⟨E,3,none⟩ (.slice p3 n3 c3)=w9:=⟨_,rfl⟩
      obtain⟨E0,E1,E2,E3,bC⟩:=Cc X3 bE O;have bA:Below w.heap.size w w9:=by rw[<-O];exact Au (V.1.trans (M.1.mono V.1.size)) (Nat.le_of_eq cT.1) _ _ _ _
      rw[O];try simp only[Exit.inBlock,Exit.then]
      refine bodyPost_ret (by simp[results,results63,go_sem,E0,E1,E2,E3];try rfl) rfl ?_;exact⟨⟨s2,p2,n2,c2,s3,p3,n3,c3,rfl,bC⟩,bA⟩)
    |(have bE:Qs w2 s2 p2 n2 c2 s3 p3 n3 c3 (Rat.divInt n d):=⟨by rw[HE.1.1];exact eP,by rw[HE.1.2];exact eT.keep aN⟩
      have X3:=U.1.below_ M.1 U.1.lt
      obtain⟨w9,O⟩:∃w9,(((w2.setCell ⟨E,0,none⟩ (.bool s2)).setCell ⟨E,1,none⟩ (.slice p2 n2 c2)).setCell ⟨E,2,none⟩ (.bool s3)).setCell ⟨E,3,none⟩ (.slice p3 n3 c3)=w9:=⟨_,rfl⟩
      obtain⟨E0,E1,E2,E3,bC⟩:=Cc X3 bE O;have bA:Below w.heap.size w w9:=by rw[<-O];exact Au (V.1.trans (M.1.mono V.1.size)) (Nat.le_of_eq cT.1) _ _ _ _
      rw[O];try simp only[Exit.inBlock,Exit.then]
      refine bodyPost_ret (by simp[results,results63,go_sem,E0,E1,E2,E3];try rfl) rfl ?_;exact⟨⟨s2,p2,n2,c2,s3,p3,n3,c3,rfl,bC⟩,bA⟩)
  ·have mD:(0:Int)<(b:Int):=by omega
   have e1:Int.tmod (a:Int) (b:Int)=((a % b:Nat):Int):=by rw[Int.tmod_eq_emod_of_nonneg (by omega)];rfl
   have e2:((b:Int)==0)=false:=beq_eq_false_iff_ne.2 (by omega);have e3:b≠0:=by omega
   obtain⟨r,hr⟩:∃r,a % b=r:=⟨_,rfl⟩
   have nQ:r<b:=by rw[<-hr];exact Nat.mod_lt _ hJ
   have gP:=Kh (show Nat.gcd b r=g by rw[<-hr,Nat.gcd_comm b,<-Nat.gcd_rec,Nat.gcd_comm];exact Z);rw[hr]at e1;have v1:IntKind.i64.wrap (r:Int)=(r:Nat):=IntWalk.i64_in _ (by omega);clear hr Z;go_wp2_with fail
   go_quiet (fail)
   go_wp2;go_roundw
   case rel=>exact⟨b,r,rfl,rfl,gP.1,hb,by omega,_,Lx _ _ _⟩
   case measure=>simp[intOf];omega
def D5 (x:Nat->Int) (ln k:Nat):Rat:=Rat.divInt (if k<ln then x k else 0) ((1+k % 2:Nat):Int)
theorem fP (p:Option Addr) (O c:Nat) (x:Nat->Int) (n:Nat) (w:World) (hp:∀k,k<O->∃g o,p=some ⟨g,o,none⟩/\g<w.heap.size/\w.cell? ⟨g,o+k,none⟩=some (.int .i8 (x k))) (hx:∀k,k<O->-128<=x k/\x k<=127) (hn:n<=1000):
  Calls prog 23 #[.slice p O c,.int .i64 n] w λe w'=>(∃v',e=.returned v'/\OwnQ (λj=>IsQ (D5 x O j)) w' w.heap.size v' n)/\Below w.heap.size w w':=by
 have HN:=Kh (OwnQ.nil (λj=>IsQ (D5 x O j)) w w.heap.size);have HP:=Kh hp;have HX:=Kh hx;clear hp hx;go_enter func23,ntmps23
 go_wp2;go_loopw [5,6] (λv i wr=>∃k:Nat,k<=n/\i=.int .i64 k/\OwnQ (λj=>IsQ (D5 x O j)) wr w.heap.size v k/\Below w.heap.size w wr) (λ_ i _=>n - (intOf i).toNat)
 case atStart=>exact⟨0,Nat.zero_le _,rfl,HN.1,Below.refl _ _⟩
 case round=>
  obtain⟨k,hk,rfl,ho,hb⟩:=hrel;have HO:=Kh ho;have HB:=Kh hb;clear ho HN;by_cases hlt:k<n
  ·obtain⟨r,hr⟩:∃r,k % 2=r:=⟨_,rfl⟩
   have gF:r<2:=by omega
   obtain⟨d,hd⟩:∃d,1+r=d:=⟨_,rfl⟩
   have e1:Int.tmod (k:Int) 2=(r:Nat):=by rw[Int.tmod_eq_emod_of_nonneg (by omega)];omega
   have v0:IntKind.i64.wrap (r:Int)=(r:Nat):=IntWalk.i64_in _ (by omega);have e2:(1:Int)+(r:Int)=(d:Nat):=by omega
   have v1:IntKind.i64.wrap (d:Int)=(d:Nat):=IntWalk.i64_in _ (by omega);have HD:=Kh (show 1+k % 2=d by omega);have aK:0<d/\d<=3:=by omega
   have eT:=Kh aK;have gA:(k:Int)<(n:Int):=by omega
   by_cases hkl:k<O
   ·obtain⟨g,o,rfl,hg,hc⟩:=HP.1 k hkl
    obtain⟨z,hz⟩:∃z,x k=z:=⟨_,rfl⟩
    have cA:=HX.1 k hkl;rw[hz]at hc cA;have HZ:=Kh (show D5 x O k=Rat.divInt z d by rw[D5,if_pos hkl,hz,HD.1]);have a0:wr.cell? ⟨g,o+k,none⟩=some (.int .i8 z):=(hb.cell (p:=⟨g,o+k,none⟩) hg).trans hc;have v2:IntKind.i64.wrap z=z:=IntWalk.i64_in _ (by omega);have bY:(k:Int)<(O:Int):=by omega
    have HC:=Kh (Wg z d wr (by omega) (by omega) (by omega) (by omega));clear hb hz hc hd hr aK cA;go_wp2_with fail
    refine HC.1.mono ?_;rintro e w2 ⟨⟨s,p1,i1,c1,t,q1,m,d1,rfl,hq⟩,J⟩;obtain⟨xs,hK,hX⟩:=HO.1.keep (λ_=>IsQ.solid _) J;have V:=Kh hK;have h:=Kh hX;have HQ:=Kh (show IsQ (D5 x O k) w2 s p1 i1 c1 t q1 m d1 by rw[HZ.1];exact hq);have I:=bt HB J;clear hK hX hq J HO HB a0 HC;go_wp2_with (at_builtin;refine Bk NotInt rfl (.tmp 22) (.tmp 28) _ 86 rfl underlying30 F4 rfl (by decide) w.heap.size k u5 xs [.bool s,.slice p1 i1 c1,.bool t,.slice q1 m d1] rfl V.1 rfl rfl (iI _ _ _ _ _ _ _ _) (by omega) (by omega) I.1.size (mQ _ _ _ _ _ _ _ _) kT ?_;intro v' w' E M aD;have Z:=Kh (OwnQ.push (W:=_) (λ_=>IsQ.solid _) V.1 h.1 HQ.1 E M);have U:=Kh (At I.1 V.1.1 M (nL _) I.1.size);clear E M aD)
    go_roundw
    case rel=>exact⟨k+1,by omega,by go_num,Z.1,U.1⟩
    case measure=>simp[intOf];omega
   ·have HZ:=Kh (show D5 x O k=Rat.divInt 0 d by rw[D5,if_neg hkl,HD.1])
    have bY:¬((k:Int)<(O:Int)):=by omega
    have HC:=Kh (Wg 0 d wr (by omega) (by omega) (by omega) (by omega));clear hb hd hr aK;go_wp2_with fail
    refine HC.1.mono ?_;rintro e w2 ⟨⟨s,p1,i1,c1,t,q1,m,d1,rfl,hq⟩,J⟩;obtain⟨xs,hK,hX⟩:=HO.1.keep (λ_=>IsQ.solid _) J;have V:=Kh hK;have h:=Kh hX;have HQ:=Kh (show IsQ (D5 x O k) w2 s p1 i1 c1 t q1 m d1 by rw[HZ.1];exact hq);have I:=bt HB J;clear hK hX hq J HO HB HC;go_wp2_with (at_builtin;refine Bk NotInt rfl (.tmp 22) (.tmp 28) _ 86 rfl underlying30 F4 rfl (by decide) w.heap.size k u5 xs [.bool s,.slice p1 i1 c1,.bool t,.slice q1 m d1] rfl V.1 rfl rfl (iI _ _ _ _ _ _ _ _) (by omega) (by omega) I.1.size (mQ _ _ _ _ _ _ _ _) kT ?_;intro v' w' E M aD;have Z:=Kh (OwnQ.push (W:=_) (λ_=>IsQ.solid _) V.1 h.1 HQ.1 E M);have U:=Kh (At I.1 V.1.1 M (nL _) I.1.size);clear E M aD)
    go_roundw
    case rel=>exact⟨k+1,by omega,by go_num,Z.1,U.1⟩
    case measure=>simp[intOf];omega
  ·obtain rfl:k=n:=by omega
   clear hb;go_wp2;go_ret;exact⟨⟨_,rfl,HO.1⟩,HB.1⟩
structure ModR (w:World) (M n wt:Nat) (D:Int) (F:List Nat) (C:Nat) (X:Nat->Nat->Rat):Prop where
 check:Pl.check n ((wt:Int)+2) D=0
 cnt:cntF n wt=C
 len:F.length<=72
 mod:ModAt w M w.heap.size n ((wt:Int)+2) D F C X
 size:∀j f,j<C->f∈F->hq (X j f)<=10000
 rel:∀f,f∈F->RelZ n wt D (λj=>X j f)
theorem ModR.keep {w w':World} {M n wt:Nat} {D:Int} {F:List Nat} {C:Nat} {X:Nat->Nat->Rat} (h:ModR w M n wt D F C X) (E:Below w.heap.size w w'):ModR w' M n wt D F C X:=
 ⟨h.check,h.cnt,h.len,(h.mod.keep (nL _) E).up E.size,h.size,h.rel⟩
theorem Jx {M n wt:Nat} {D:Int} {F:List Nat} {C:Nat} {X:Nat->Nat->Rat} {w:World} (hT:Tab w) (h:ModR w M n wt D F C X) (v:Value) (f:Nat->Rat) (p q p' q':Int) (hp:QL (λj=>IsQ (f j)) w v (wt+1)) (hf:∀j,j<wt+1->hq (f j)<=4000)
  (E:-9223372036854775808<=p) (I:p<=9223372036854775807) (J:-9223372036854775808<=q) (O:q<=9223372036854775807) (U:-9223372036854775808<=p') (V:p'<=9223372036854775807) (Z:-9223372036854775808<=q') (aD:q'<=9223372036854775807):
  Calls prog 24 #[.pointer (some ⟨M,0,none⟩),.agg #[v,.int .i64 p,.int .i64 q,.int .i64 p',.int .i64 q']] w λe w'=>CoRet w w' e p q p' q' n wt D F X f/\Below w.heap.size w w':=by
 have h1:=aQ M w.heap.size n wt D F C X v (λj=>(f j).num) (λj=>(f j).den) p q p' q' w hT h.check h.cnt h.len h.mod (nL _) h.size h.rel (hp.isB hf) E I J O U V Z aD;have e:(λi=>Rat.divInt (f i).num ((f i).den:Int))=f:=funext λi=>Rat.num_divInt_den (f i)
 rw[e]at h1;exact h1
end
end Go.Proofs.YtenlbhlllgppmaaGreatDoor
