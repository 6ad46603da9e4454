/- INVARIANCE, plain: a matrix of Gamma0(n) multiplies the class of every path by the character. No program in sight. -/
import Derived.Test.YtenlbhlllgppmaaGreatDoorB32
set_option linter.unusedSimpArgs false
set_option maxRecDepth 100000
set_option maxHeartbeats 8000000
namespace Go.Proofs.YtenlbhlllgppmaaGreatDoor
section
open Eli
structure G0 (n:Nat) (a b c d:Int):Prop where
 det:a*d - b*c=1
 low:(n:Int)∣c
theorem T6 {n:Nat} {a b c d:Int} (hn:0<n) (h:G0 n a b c d):∃s:Nat,1<=s/\s<=n/\pun n s=true/\(s:Int) % n=d % n/\s % n=(d % n).toNat % n:=by
 have hr:((d % n).toNat:Int)=d % n:=Int.toNat_of_nonneg (Int.emod_nonneg _ (by omega));obtain⟨r,I⟩:∃r,(d % n).toNat=r:=⟨_,rfl⟩
 rw[I]at hr ⊢
 have hp:pun n r=true:=by
  have U:((Nat.gcd r n:Nat):Int)∣r:=Int.natCast_dvd_natCast.2 (Nat.gcd_dvd_left ..);have J:((Nat.gcd r n:Nat):Int)∣n:=Int.natCast_dvd_natCast.2 (Nat.gcd_dvd_right ..)
  have V:((Nat.gcd r n:Nat):Int)∣d:=by
   have e:d=n*(d / n)+r:=by rw[hr];exact(Int.mul_ediv_add_emod d n).symm
   rw[e];exact Int.dvd_add (Int.dvd_trans J (Int.dvd_mul_right _ _)) U
  have Y:((Nat.gcd r n:Nat):Int)∣1:=by
   rw[<-h.det];exact Int.dvd_sub (Int.dvd_trans V (Int.dvd_mul_left _ _)) (Int.dvd_trans (Int.dvd_trans J h.low) (Int.dvd_mul_left _ _))
  simp only[pun,beq_iff_eq];exact Nat.dvd_one.1 (Int.natCast_dvd_natCast.1 Y)
 obtain⟨s,Z,h2,h3,O⟩:=Ew hn hp;have h5:(s:Int) % n=(r:Int) % n:=by exact_mod_cast congrArg (λz:Nat=>(z:Int)) O
 exact⟨s,Z,h2,h3,by rw[h5,hr,Int.emod_emod],O⟩
theorem Yp {k d:Int} {m:Nat} (Y:0<m) (J:k.natAbs=m) (hg:Int.gcd k d=1):∃r:Nat,r<m/\(m:Int)∣r*d - 1:=by
 have Z:=Int.toNat_of_nonneg (Int.emod_nonneg d (show(m:Int)≠0 by omega));obtain⟨s,O⟩:∃s,(d % m).toNat=s:=⟨_,rfl⟩
 rw[O]at Z;have I:=Int.mul_ediv_add_emod d m;rw[<-Z]at I
 have h1:Nat.gcd s m=1:=by
  have g1:((Nat.gcd s m:Nat):Int)∣s:=Int.natCast_dvd_natCast.2 (Nat.gcd_dvd_left ..);have U:((Nat.gcd s m:Nat):Int)∣m:=Int.natCast_dvd_natCast.2 (Nat.gcd_dvd_right ..);have g3:((Nat.gcd s m:Nat):Int)∣k:=Int.dvd_natAbs.1 (by rw[J];exact U);have g4:((Nat.gcd s m:Nat):Int)∣d:=by rw[<-I];exact Int.dvd_add (Int.dvd_trans U (Int.dvd_mul_right _ _)) g1
  have V:=Int.dvd_coe_gcd g3 g4;rw[hg]at V;exact Nat.dvd_one.1 (Int.natCast_dvd_natCast.1 V)
 obtain⟨r,_,_,_,h2⟩:=Lq m s Y h1;have h3:((r*s:Nat):Int) % m=(1:Nat) % m:=by exact_mod_cast congrArg (λz:Nat=>(z:Int)) h2
 obtain⟨e,he⟩:=Int.dvd_of_emod_eq_zero (Int.emod_eq_emod_iff_emod_sub_eq_zero.1 h3);have h4:=Nat.div_add_mod r m;have h5:(m:Int)*((r / m:Nat):Int)+((r % m:Nat):Int)=r:=by exact_mod_cast congrArg (λz:Nat=>(z:Int)) h4
 rw[Int.natCast_mul]at he;refine⟨r % m,Nat.mod_lt _ Y,e+r*(d / m) - ((r / m:Nat):Int)*d,?_⟩;obtain⟨q,hq⟩:∃q,d / m=q:=⟨_,rfl⟩
 rw[hq]at I ⊢;obtain⟨t,h⟩:∃t:Int,((r / m:Nat):Int)=t:=⟨_,rfl⟩
 obtain⟨v,hv⟩:∃v:Int,((r % m:Nat):Int)=v:=⟨_,rfl⟩
 rw[h,hv]at h5;rw[h,hv];have e1:v=r - m*t:=by omega
 have e2:(r:Int)*s=1+m*e:=by omega
 rw[e1];have e3:(r:Int)*d=r*(m*q)+r*s:=by rw[<-Int.mul_add,I]
 grind
theorem Yj {x y:Int×Int} (h:Nb x y):Int.gcd x.1 x.2=1/\Int.gcd y.1 y.2=1:=by
 have one:∀u v p q:Int,u*p+v*q=1->Int.gcd u v=1:=λu v p q h=>by
  have I:((Int.gcd u v:Nat):Int)∣1:=by
   rw[<-h];exact Int.dvd_add (Int.dvd_trans (Int.gcd_dvd_left ..) (Int.dvd_mul_right _ _)) (Int.dvd_trans (Int.gcd_dvd_right ..) (Int.dvd_mul_right _ _))
  exact Nat.dvd_one.1 (Int.natCast_dvd_natCast.1 I)
 rcases h with h|h
 ·exact⟨one _ _ (-y.2) y.1 (by rw[<-h];grind),one _ _ x.2 (-x.1) (by rw[<-h];grind)⟩
 ·exact⟨one _ _ y.2 (-y.1) (by grind),one _ _ (-x.2) x.1 (by grind)⟩
def img (a b c d:Int) (x:Int×Int):Int×Int:=low (a*x.1+b*x.2) (c*x.1+d*x.2)
theorem Es {a b c d:Int} (h:a*d - b*c=1) {x:Int×Int} (hx:Int.gcd x.1 x.2=1):
  Gd (img a b c d x)/\(((img a b c d x).1=a*x.1+b*x.2/\(img a b c d x).2=c*x.1+d*x.2)∨((img a b c d x).1=-(a*x.1+b*x.2)/\(img a b c d x).2=-(c*x.1+d*x.2))):=by
 have hg:Int.gcd (a*x.1+b*x.2) (c*x.1+d*x.2)=1:=by
  obtain⟨A,hA⟩:∃A,a*x.1+b*x.2=A:=⟨_,rfl⟩
  obtain⟨B,hB⟩:∃B,c*x.1+d*x.2=B:=⟨_,rfl⟩
  rw[hA,hB];have Y:x.1=A*d+B*(-b):=by rw[<-hA,<-hB];grind
  have Z:x.2=A*(-c)+B*a:=by rw[<-hA,<-hB];grind
  have h1:((Int.gcd A B:Nat):Int)∣x.1:=by
   rw[Y];exact Int.dvd_add (Int.dvd_trans (Int.gcd_dvd_left ..) (Int.dvd_mul_right _ _)) (Int.dvd_trans (Int.gcd_dvd_right ..) (Int.dvd_mul_right _ _))
  have h2:((Int.gcd A B:Nat):Int)∣x.2:=by
   rw[Z];exact Int.dvd_add (Int.dvd_trans (Int.gcd_dvd_left ..) (Int.dvd_mul_right _ _)) (Int.dvd_trans (Int.gcd_dvd_right ..) (Int.dvd_mul_right _ _))
  have V:=Int.dvd_coe_gcd h1 h2;rw[hx]at V;exact Nat.dvd_one.1 (Int.natCast_dvd_natCast.1 V)
 obtain⟨k,u,v,hk,O,U,hq,I,J,_⟩:=D5 (p:=a*x.1+b*x.2) (q:=c*x.1+d*x.2) (by rw[hg];decide);have e:img a b c d x=(u,v):=I;rw[e];refine⟨J,?_⟩;rw[U,hq,Int.gcd_mul_left,O,Nat.mul_one]at hg;rcases(show k=1∨k=-1 by omega)with rfl|rfl
 ·left;rw[U,hq,Int.one_mul,Int.one_mul];exact⟨rfl,rfl⟩
 ·right;rw[U,hq];constructor <;>(dsimp only;omega)
section
variable {n wt:Nat} {D:Int} {x:Nat->Rat} {Q:Nat->Rat} {a b c d:Int} {s:Nat}
theorem Tp (I:Pl.check n ((wt:Int)+2) D=0) (hg:G0 n a b c d) (U:1<=s) (V:s<=n) (Y:pun n s=true) (Z:(s:Int) % n=d % n) {p q r t:Int} (h:p*t - q*r=1):
  ph n wt D x (subst Q wt d (-b) (-c) a (wt+1)) (a*p+b*r) (a*q+b*t) (c*p+d*r) (c*q+d*t)=(Pl.kroP D s:Rat)*ph n wt D x Q p q r t:=by
 have J:=hg.det
 have O:∀z y:Int,(c*z+d*y) % (n:Int)=((s:Int)*y) % n:=λz y=>by
  rw[Int.emod_eq_emod_iff_emod_sub_eq_zero];have e:c*z+d*y - s*y=c*z - (s - d)*y:=by grind
  rw[e];refine Int.emod_eq_zero_of_dvd (Int.dvd_sub (Int.dvd_trans hg.low (Int.dvd_mul_right _ _)) (Int.dvd_trans (Int.dvd_of_emod_eq_zero ?_) (Int.dvd_mul_right _ _)));exact Int.emod_eq_emod_iff_emod_sub_eq_zero.1 Z
 unfold ph;rw[I8,show d*(a*p+b*r)+-b*(c*p+d*r)=p by grind,show d*(a*q+b*t)+-b*(c*q+d*t)=q by grind,show -c*(a*p+b*r)+a*(c*p+d*r)=r by grind,show -c*(a*q+b*t)+a*(c*q+d*t)=t by grind,M6 I (Dl (n:=n) (by omega) h) U V Y (O p r) (O q t),Hn]
theorem Fp {y z:Int×Int} (h:Nb y z):Ah n wt D x Q (-y.1,-y.2) z=Ah n wt D x Q y z:=by
 unfold Ah;dsimp only;rcases h with h|h
 ·rw[if_neg (by grind),if_pos h,Int.neg_neg,Int.neg_neg]
 ·rw[if_pos (by grind),if_neg (by omega)]
theorem Fq (I:Pl.check n ((wt:Int)+2) D=0) (O:RelZ n wt D x) {y z:Int×Int} (h:Nb y z):Ah n wt D x Q y (-z.1,-z.2)=Ah n wt D x Q y z:=by
 unfold Ah;dsimp only;rcases h with h|h
 ·rw[if_neg (by grind),if_pos h]
  exact Ld I O (by grind)
 ·rw[if_pos (by grind),if_neg (by omega)]
  have J:=Ld (Q:=Q) I O (a:=z.1) (b:=-y.1) (c:=z.2) (d:=-y.2) (by grind);rw[Int.neg_neg,Int.neg_neg]at J;exact J
theorem iE (I:a*d - b*c=1) {y z:Int×Int} (h:Nb y z):Nb (a*y.1+b*y.2,c*y.1+d*y.2) (a*z.1+b*z.2,c*z.1+d*z.2):=by
 have e:(a*z.1+b*z.2)*(c*y.1+d*y.2) - (a*y.1+b*y.2)*(c*z.1+d*z.2)=(a*d - b*c)*(z.1*y.2 - y.1*z.2):=by grind
 rw[I,Int.one_mul]at e;unfold Nb at *;dsimp only;rw[e];exact h
theorem Hy {y z:Int×Int} (h:Nb y z):Nb (-y.1,-y.2) z:=by
 have e:z.1 * -y.2 - -y.1*z.2=-(z.1*y.2 - y.1*z.2):=by grind
 unfold Nb at *;dsimp only;rw[e];omega
theorem Gl {y z:Int×Int} (h:Nb y z):Nb y (-z.1,-z.2):=(Hy h.symm).symm
theorem aB (I:Pl.check n ((wt:Int)+2) D=0) (hg:G0 n a b c d) (J:1<=s) (O:s<=n) (U:pun n s=true) (V:(s:Int) % n=d % n) {y z:Int×Int} (h:Nb y z):
  Ah n wt D x (subst Q wt d (-b) (-c) a (wt+1)) (a*y.1+b*y.2,c*y.1+d*y.2) (a*z.1+b*z.2,c*z.1+d*z.2)=(Pl.kroP D s:Rat)*Ah n wt D x Q y z:=by
 have e:(a*z.1+b*z.2)*(c*y.1+d*y.2) - (a*y.1+b*y.2)*(c*z.1+d*z.2)=(a*d - b*c)*(z.1*y.2 - y.1*z.2):=by grind
 rw[hg.det,Int.one_mul]at e;unfold Ah;dsimp only;rw[e];rcases h with h|h
 ·rw[if_pos h,if_pos h]
  exact Tp I hg J O U V h
 ·rw[if_neg (by omega),if_neg (by omega),show -(a*y.1+b*y.2)=a * -y.1+b * -y.2 by grind,show -(c*y.1+d*y.2)=c * -y.1+d * -y.2 by grind]
  exact Tp I hg J O U V (by grind)
theorem aC (J:Pl.check n ((wt:Int)+2) D=0) (hR:RelZ n wt D x) (hg:G0 n a b c d) (h1:1<=s) (h2:s<=n) (h3:pun n s=true) (h4:(s:Int) % n=d % n) {y z:Int×Int} (h:Nb y z):
  Nb (img a b c d y) (img a b c d z)/\Ah n wt D x (subst Q wt d (-b) (-c) a (wt+1)) (img a b c d y) (img a b c d z)=(Pl.kroP D s:Rat)*Ah n wt D x Q y z:=by
 obtain⟨gy,gz⟩:=Yj h;have I:=iE hg.det h;rw[<-aB (x:=x) (Q:=Q) J hg h1 h2 h3 h4 h];obtain⟨_,O⟩:=Es hg.det gy;obtain⟨_,U⟩:=Es hg.det gz;obtain⟨Y,hY⟩:∃Y:Int×Int,(a*y.1+b*y.2,c*y.1+d*y.2)=Y:=⟨_,rfl⟩
 obtain⟨Z,hZ⟩:∃Z:Int×Int,(a*z.1+b*z.2,c*z.1+d*z.2)=Z:=⟨_,rfl⟩
 have V:img a b c d y=Y∨img a b c d y=(-Y.1,-Y.2):=by
  rw[<-hY];rcases O with O|O
  ·left;exact Prod.ext O.1 O.2
  ·right;exact Prod.ext O.1 O.2
 have aX:img a b c d z=Z∨img a b c d z=(-Z.1,-Z.2):=by
  rw[<-hZ];rcases U with U|U
  ·left;exact Prod.ext U.1 U.2
  ·right;exact Prod.ext U.1 U.2
 rw[hY,hZ]at I ⊢;rcases V with e1|e1 <;> rcases aX with e2|e2 <;> rw[e1,e2]
 ·exact⟨I,rfl⟩
 ·exact⟨Gl I,Fq J hR I⟩
 ·exact⟨Hy I,Fp I⟩
 ·exact⟨Hy (Gl I),(Fp (Gl I)).trans (Fq J hR I)⟩
end
def Cu (x:Int×Int):Prop:=Gd x/\Int.gcd x.1 x.2=1
theorem Cu.inf:Cu (1,0):=⟨⟨Int.le_refl 0,λ_=>rfl⟩,by decide⟩
theorem Cu.zero:Cu (0,1):=⟨⟨by decide,λh=>absurd h (by decide)⟩,by decide⟩
theorem iM {x:Int×Int} (h:Cu x) (h0:0<x.2):∃y:Int×Int,y.1*x.2 - x.1*y.2=1/\0<=y.2/\y.2<x.2/\Cu y:=by
 obtain⟨m,Z⟩:∃m:Nat,x.2.natAbs=m:=⟨_,rfl⟩
 obtain⟨r,hr,e,Y⟩:=Yp (k:=x.2) (d:=-x.1) (m:=m) (by omega) Z (by rw[Int.gcd_neg,Int.gcd_comm];exact h.2);have J:(m:Int)=x.2:=by omega
 rw[J]at Y;have I:-e*x.2 - x.1*r=1:=by grind
 have hn:Nb x (-e,(r:Int)):=.inl I;refine⟨(-e,(r:Int)),I,Int.natCast_nonneg r,by show(r:Int)<x.2;omega,⟨Int.natCast_nonneg r,λO=>?_⟩,(Yj hn).2⟩;have U:(r:Int)=0:=O;show -e=1;rw[U,Int.mul_zero,Int.sub_zero]at I;have V:x.2=1:=Int.eq_one_of_dvd_one (by omega) ⟨-e,by rw[Int.mul_comm];exact I.symm⟩;rw[V,Int.mul_one]at I;exact I
theorem Kx {P:Int×Int->Prop} (h1:P (1,0)) (h2:∀x y:Int×Int,Cu x->Cu y->0<x.2->y.1*x.2 - x.1*y.2=1->0<=y.2->y.2<x.2->P y->P x):∀x,Cu x->P x:=by
 have V:∀k:Nat,∀x:Int×Int,x.2.toNat<=k->Cu x->P x:=by
  intro k;induction k with
  | zero=>
   intro x U I;have J:=I.1.1;have O:x.2=0:=by omega
   have Z:=I.1.2 O;obtain⟨p,q⟩:=x;dsimp only at O Z;rw[O,Z];exact h1
  | succ k ih=>
   intro x U I;rcases Int.lt_or_le 0 x.2 with J|J
   ·obtain⟨y,h,g2,g3,Y⟩:=iM I J
    exact h2 x y I Y J h g2 g3 (ih y (by omega) Y)
   ·exact ih x (by omega) I
 exact λx U=>V _ x (nR _) U
section
variable {n wt:Nat} {D:Int} {x:Nat->Rat} {Q:Nat->Rat} {a b c d:Int} {s:Nat}
theorem Qf (O:Pl.check n ((wt:Int)+2) D=0) (hR:RelZ n wt D x) (hg:G0 n a b c d) (h1:1<=s) (h2:s<=n) (h3:pun n s=true) (h4:(s:Int) % n=d % n) {u v:Int×Int} (hu:Cu u) (hv:Cu v):
  Pot (Ah n wt D x (subst Q wt d (-b) (-c) a (wt+1))) (img a b c d v) - Pot (Ah n wt D x (subst Q wt d (-b) (-c) a (wt+1))) (img a b c d u)=(Pl.kroP D s:Rat)*(Pot (Ah n wt D x Q) v - Pot (Ah n wt D x Q) u):=by
 obtain⟨J,I⟩:∃J,Ah n wt D x (subst Q wt d (-b) (-c) a (wt+1))=J:=⟨_,rfl⟩
 obtain⟨st,U⟩:∃st,Ah n wt D x Q=st:=⟨_,rfl⟩
 have V:∀u,Cu u->Pot J (img a b c d u) - Pot J (img a b c d (1,0))=(Pl.kroP D s:Rat)*(Pot st u - Pot st (1,0)):=by
  refine Kx (by grind) (λz y hz hy h0 h g2 g3 ih=>?_);have hn:Nb y z:=Nb.symm (.inl h);obtain⟨e1,Y⟩:=aC (x:=x) (Q:=Q) O hR hg h1 h2 h3 h4 hn;have Z:=(Lm (Q:=subst Q wt d (-b) (-c) a (wt+1)) O hR).diff _ _ _ (Es hg.det hy.2).1 (Es hg.det hz.2).1 e1 (nR _);have e4:=Ck (st:=st) h g2 g3;rw[I,U]at Y;rw[I]at Z;rw[Z]at Y;rw[e4];grind
 rw[I,U];have k1:=V u hu;have k2:=V v hv;grind
end
theorem Fa {a b c d:Int} (h:a*d - b*c≠0) {x:Int×Int} (hx:Cu x):Int.gcd (a*x.1+b*x.2) (c*x.1+d*x.2)≠0:=by
 intro Z;obtain⟨I,J⟩:=Int.gcd_eq_zero_iff.1 Z
 have O:(a*d - b*c)*x.1=0:=by
  have:(a*d - b*c)*x.1=d*(a*x.1+b*x.2) - b*(c*x.1+d*x.2):=by grind
  rw[this,I,J];simp
 have U:(a*d - b*c)*x.2=0:=by
  have:(a*d - b*c)*x.2=a*(c*x.1+d*x.2) - c*(a*x.1+b*x.2):=by grind
  rw[this,I,J];simp
 have V:=(Int.mul_eq_zero.1 O).resolve_left h;have Y:=(Int.mul_eq_zero.1 U).resolve_left h;have:=hx.2;rw[V,Y]at this;simp at this
theorem Ay {a b c d:Int} (h:a*d - b*c≠0) {x:Int×Int} (O:Cu x):Cu (img a b c d x):=by
 obtain⟨k,u,v,_,hg,_,_,J,I,_⟩:=D5 (Fa h O);have e:img a b c d x=(u,v):=J;rw[e];exact⟨I,hg⟩
theorem Fb {a b c d I J O U:Int} (h:a*d - b*c≠0) (Y:I*U - J*O≠0) {x:Int×Int} (V:Cu x):img I J O U (img a b c d x)=img (I*a+J*c) (I*b+J*d) (O*a+U*c) (O*b+U*d) x:=
 Vg (Fa h V) (Fa Y (Ay h V))
theorem Yx {k:Int} {x:Int×Int} (O:k≠0) (I:Cu x):low (k*x.1) (k*x.2)=x:=by
 rw[Ob O I.2,if_neg];rintro(h |⟨J,U⟩)
 ·have:=I.1.1;omega
 ·have:=I.1.2 J;omega
theorem Iy {a b c d k:Int} {x y:Int×Int} (O:k≠0) (U:Cu y) (I:a*x.1+b*x.2=k*y.1) (J:c*x.1+d*x.2=k*y.2):img a b c d x=y:=by
 unfold img;rw[I,J];exact Yx O U
def mono (i:Nat):Nat->Rat:=λj=>if j=i then 1 else 0
theorem Lp {i wt:Nat} (I:i<wt+1) (a b c d:Int) (l:Nat):subst (mono i) wt a b c d (wt+1) l=(mv i a b c d wt l:Rat):=by
 unfold subst;rw[Bc I]
 ·unfold mono;rw[if_pos rfl,Rat.one_mul]
 ·intro k _ J
  unfold mono;rw[if_neg J,Rat.zero_mul]
structure PF (n wt:Nat) (D:Int) (Φ:(Nat->Rat)->Int×Int->Int×Int->Rat):Prop where
 congr:∀Q Q' u v,(∀j,j<wt+1->Q j=Q' j)->Φ Q u v=Φ Q' u v
 lin:∀(q:Nat->Rat) (f:Nat->Nat->Rat) (m:Nat) u v,Cu u->Cu v->Φ (λj=>sumQ (λi=>q i*f i j) m) u v=sumQ (λi=>q i*Φ (f i) u v) m
 add:∀Q u v z,Cu u->Cu v->Cu z->Φ Q u v+Φ Q v z=Φ Q u z
 move:∀Q (a b c d:Int) (s:Nat) u v,G0 n a b c d->1<=s->s<=n->pun n s=true->(s:Int) % n=d % n->Cu u->Cu v->Φ (subst Q wt d (-b) (-c) a (wt+1)) (img a b c d u) (img a b c d v)=(Pl.kroP D s:Rat)*Φ Q u v
def Dj (n:Nat) (γ:Nat->M4):Prop:=∀p,p<(pts n (n*n)).length->(γ p).1*(γ p).2.2.2 - (γ p).2.1*(γ p).2.2.1=1/\(γ p).2.2.1 % n=(((pts n (n*n)).getD p 0 / n:Nat):Int) % n/\(γ p).2.2.2 % n=(((pts n (n*n)).getD p 0 % n:Nat):Int) % n
def Mg (wt m:Nat) (γ:Nat->M4) (Φ:(Nat->Rat)->Int×Int->Int×Int->Rat) (j:Nat):Rat:=
 Φ (subst (mono (j / m)) wt (γ (j % m)).2.2.2 (-(γ (j % m)).2.1) (-(γ (j % m)).2.2.1) (γ (j % m)).1 (wt+1)) (img (γ (j % m)).1 (γ (j % m)).2.1 (γ (j % m)).2.2.1 (γ (j % m)).2.2.2 (0,1)) (img (γ (j % m)).1 (γ (j % m)).2.1 (γ (j % m)).2.2.1 (γ (j % m)).2.2.2 (1,0))
theorem Gu (Q:Nat->Rat) (wt j:Nat) (J:j<wt+1):subst Q wt 1 0 0 1 (wt+1) j=Q j:=by
 have h:∀i k l,mv i 1 0 0 1 k l=if l=min k i then 1 else 0:=by
  intro i k;induction k with
  | zero=>intro l;rw[mv,Nat.zero_min]
  | succ k ih=>
   intro l;rw[mv];split
   ·unfold lin
    rw[ih,ih,Int.zero_mul,Int.add_zero,Int.one_mul];rcases l with _|l
    ·rw[if_neg (Nat.lt_irrefl 0),if_neg (show ¬0=min (k+1) i by omega)]
    ·rw[if_pos (Nat.succ_pos l),Nat.add_sub_cancel]
     by_cases hl:l=min k i
     ·rw[if_pos hl,if_pos (show l+1=min (k+1) i by omega)]
     ·rw[if_neg hl,if_neg (show ¬l+1=min (k+1) i by omega)]
   ·unfold lin
    rw[ih,ih,Int.one_mul];have I:∀z:Int,(if 0<l then(0:Int)*z else 0)=0:=λz=>by split <;> simp
    rw[I,Int.zero_add];by_cases hl:l=min k i
    ·rw[if_pos hl,if_pos (show l=min (k+1) i by omega)]
    ·rw[if_neg hl,if_neg (show ¬l=min (k+1) i by omega)]
 unfold subst;rw[Bc J]
 ·rw[h,if_pos (by omega)]
  show Q j*((1:Int):Rat)=Q j;grind
 ·intro i U O
  rw[h,if_neg (by omega)];show Q i*((0:Int):Rat)=0;grind
section
variable {n wt:Nat} {D:Int} {Φ:(Nat->Rat)->Int×Int->Int×Int->Rat} {γ:Nat->M4}
theorem PF.ph_eq (bA:Pl.check n ((wt:Int)+2) D=0) (J:PF n wt D Φ) (bE:Dj n γ) (Q:Nat->Rat) {A B C E:Int} (hd:A*E - B*C=1):
  ph n wt D (Mg wt (pts n (n*n)).length γ Φ) Q A B C E=Φ Q (img A B C E (0,1)) (img A B C E (1,0)):=by
 obtain⟨⟨a1,a2⟩,_⟩:=Pl.check_ok bA;have hn:0<n:=by omega
 obtain⟨p,s,h,h1,h2,h3,h4,h5⟩:=Ia (D:=D) hn (Dl (n:=n) hn hd);obtain⟨m,hm⟩:∃m,(pts n (n*n)).length=m:=⟨_,rfl⟩
 obtain⟨g1,V,Y⟩:=bE p h;rw[hm]at h ⊢;obtain⟨⟨a,b,c,d⟩,hg⟩:∃g,γ p=g:=⟨_,rfl⟩
 rw[hg]at g1 V Y;dsimp only at g1 V Y;have hk:=Jq hn C E;have I:=Jr hn C E;rw[<-h4,Dn hn]at hk;rw[<-h4,Dp]at I;obtain⟨c0,aX⟩:∃c0,(pts n (n*n)).getD p 0 / n=c0:=⟨_,rfl⟩
 obtain⟨U,bB⟩:∃U,(pts n (n*n)).getD p 0 % n=U:=⟨_,rfl⟩
 rw[aX]at hk V;rw[bB]at I Y
 have mC:C % n=((s:Int)*c0) % n:=by
  have e:((s*c0 % n:Nat):Int)=C % n:=by rw[hk];exact Int.toNat_of_nonneg (Int.emod_nonneg _ (by omega))
  rw[<-e];push_cast;rfl
 have mE:E % n=((s:Int)*U) % n:=by
  have e:((s*U % n:Nat):Int)=E % n:=by rw[I];exact Int.toNat_of_nonneg (Int.emod_nonneg _ (by omega))
  rw[<-e];push_cast;rfl
 have dC:(n:Int)∣C - s*c:=by
  refine Int.dvd_of_emod_eq_zero (Int.emod_eq_emod_iff_emod_sub_eq_zero.1 ?_);rw[mC,Int.mul_emod,Int.mul_emod (s:Int) c,V]
 have dE:(n:Int)∣E - s*d:=by
  refine Int.dvd_of_emod_eq_zero (Int.emod_eq_emod_iff_emod_sub_eq_zero.1 ?_);rw[mE,Int.mul_emod,Int.mul_emod (s:Int) d,Y]
 have hG:G0 n (A*d - B*c) (-(A*b)+B*a) (C*d - E*c) (-(C*b)+E*a):=by
  refine⟨by grind,?_⟩;have e:C*d - E*c=(C - s*c)*d - (E - s*d)*c:=by grind
  rw[e];exact Int.dvd_sub (Int.dvd_trans dC (Int.dvd_mul_right _ _)) (Int.dvd_trans dE (Int.dvd_mul_right _ _))
 have hs:(s:Int) % n=(-(C*b)+E*a) % n:=by
  refine Int.emod_eq_emod_iff_emod_sub_eq_zero.2 (Int.emod_eq_zero_of_dvd ?_);have e:(s:Int) - (-(C*b)+E*a)=(C - s*c)*b - (E - s*d)*a:=by grind
  rw[e];exact Int.dvd_sub (Int.dvd_trans dC (Int.dvd_mul_right _ _)) (Int.dvd_trans dE (Int.dvd_mul_right _ _))
 have i0:∀x,Cu x->img (A*d - B*c) (-(A*b)+B*a) (C*d - E*c) (-(C*b)+E*a) (img a b c d x)=img A B C E x:=λx hx=>by
  rw[Fb (by omega) (by rw[hG.det];decide) hx,show(A*d - B*c)*a+(-(A*b)+B*a)*c=A by grind,show(A*d - B*c)*b+(-(A*b)+B*a)*d=B by grind,show(C*d - E*c)*a+(-(C*b)+E*a)*c=C by grind,show(C*d - E*c)*b+(-(C*b)+E*a)*d=E by grind]
 have hv:∀i,i<wt+1->(Pl.kroP D s:Rat)*Mg wt m γ Φ (i*m+p)=Φ (subst (mono i) wt E (-B) (-C) A (wt+1)) (img A B C E (0,1)) (img A B C E (1,0)):=λi Z=>by
  have e1:(i*m+p) / m=i:=by rw[Nat.mul_comm,Nat.mul_add_div (by omega),Nat.div_eq_of_lt h,Nat.add_zero]
  have e2:(i*m+p) % m=p:=by rw[Nat.mul_comm,Nat.mul_add_mod,Nat.mod_eq_of_lt h]
  unfold Mg;rw[e1,e2,hg];dsimp only;rw[<-J.move _ _ _ _ _ s _ _ hG h1 h2 h3 hs (Ay (by omega) Cu.zero) (Ay (by omega) Cu.inf),i0 _ Cu.zero,i0 _ Cu.inf,I8];congr 2 <;> grind
 unfold ph;rw[h5];unfold cP;dsimp only;rw[hm];have O:sumQ (λi=>subst Q wt A B C E (wt+1) i*(Pl.kroP D s:Rat)*Mg wt m γ Φ (i*m+p)) (wt+1)=sumQ (λi=>subst Q wt A B C E (wt+1) i*Φ (subst (mono i) wt E (-B) (-C) A (wt+1)) (img A B C E (0,1)) (img A B C E (1,0))) (wt+1):=Ac (λi Z=>by rw[<-hv i Z];grind);rw[O,<-J.lin _ _ _ _ _ (Ay (by omega) Cu.zero) (Ay (by omega) Cu.inf)];refine J.congr _ _ _ _ (λl hl=>?_)
 have e3:sumQ (λi=>subst Q wt A B C E (wt+1) i*subst (mono i) wt E (-B) (-C) A (wt+1) l) (wt+1)=subst (subst Q wt A B C E (wt+1)) wt E (-B) (-C) A (wt+1) l:=by
  show _=sumQ (λi=>subst Q wt A B C E (wt+1) i*(mv i E (-B) (-C) A wt l:Rat)) (wt+1);exact Ac (λi Z=>by rw[Lp Z])
 rw[e3,I8,show A*E+B * -C=1 by grind,show A * -B+B*A=0 by grind,show C*E+E * -C=0 by grind,show C * -B+E*A=1 by grind];exact Gu Q wt l hl
theorem PF.step_eq (I:Pl.check n ((wt:Int)+2) D=0) (J:PF n wt D Φ) (O:Dj n γ) (Q:Nat->Rat) {u v:Int×Int} (U:Cu u) (V:Cu v) (h:Nb u v):
  Ah n wt D (Mg wt (pts n (n*n)).length γ Φ) Q u v=Φ Q u v:=by
 unfold Ah;rcases h with h|h
 ·rw[if_pos h,J.ph_eq I O Q h,Iy (k:=1) (by decide) U (by dsimp only;omega) (by dsimp only;omega),Iy (k:=1) (by decide) V (by dsimp only;omega) (by dsimp only;omega)]
 ·rw[if_neg (by omega),J.ph_eq I O Q (by grind),Iy (k:=-1) (by decide) U (by dsimp only;omega) (by dsimp only;omega),Iy (k:=1) (by decide) V (by dsimp only;omega) (by dsimp only;omega)]
theorem PF.self (J:PF n wt D Φ) (Q:Nat->Rat) {u:Int×Int} (I:Cu u):Φ Q u u=0:=by
 have:=J.add Q u u u I I I;grind
theorem PF.pot_eq (U:Pl.check n ((wt:Int)+2) D=0) (I:PF n wt D Φ) (V:Dj n γ) (Q:Nat->Rat) {u v:Int×Int} (h:Cu u) (hv:Cu v):
  Pot (Ah n wt D (Mg wt (pts n (n*n)).length γ Φ) Q) v - Pot (Ah n wt D (Mg wt (pts n (n*n)).length γ Φ) Q) u=Φ Q u v:=by
 obtain⟨st,J⟩:∃st,Ah n wt D (Mg wt (pts n (n*n)).length γ Φ) Q=st:=⟨_,rfl⟩
 have O:∀u,Cu u->Pot st u - Pot st (1,0)=Φ Q (1,0) u:=by
  refine Kx ?_ (λz y hz hy h0 Z g2 g3 ih=>?_)
  ·rw[I.self Q Cu.inf];grind
  ·have Y:=I.step_eq U V Q hy hz (Nb.symm (.inl Z))
   rw[J]at Y;rw[Ck (st:=st) Z g2 g3,<-I.add Q (1,0) y z Cu.inf hy hz,<-Y,<-ih];grind
 rw[J];have k1:=O u h;have k2:=O v hv;have k3:=I.add Q (1,0) u v Cu.inf h hv;grind
theorem Td {x:Int×Int} (p q:Int) (hx:Cu x) (h:low p q=x) (J:Int.gcd p q≠0):low (-p) (-q)=x:=by
 obtain⟨k,u,v,hk,hg,O,U,hl,Z,_⟩:=D5 J;rw[hl]at h;have I:(u,v)=x:=h;have V:-p=(-k)*x.1:=by rw[<-I,O];grind
 have Y:-q=(-k)*x.2:=by rw[<-I,U];grind
 rw[V,Y];exact Yx (by omega) hx
theorem PF.rel (bA:Pl.check n ((wt:Int)+2) D=0) (Y:PF n wt D Φ) (cA:Dj n γ):RelZ n wt D (Mg wt (pts n (n*n)).length γ Φ):=by
 obtain⟨⟨a1,a2⟩,_⟩:=Pl.check_ok bA;have hn:0<n:=by omega
 obtain⟨y,hy⟩:∃y,Mg wt (pts n (n*n)).length γ Φ=y:=⟨_,rfl⟩
 obtain⟨m,hm⟩:∃m,(pts n (n*n)).length=m:=⟨_,rfl⟩
 have bB:∀r,r<(wt+1)*m->∀I J O U:Int,I*U - J*O=1->∃a b c d:Int,γ (r % m)=(a,b,c,d)/\a*d - b*c=1 /\
   sumQ (λk=>(Mx n wt (pts n (n*n)) (Bk n D (pts n (n*n)) n) (r / m) (r % m) (I,J,O,U) k:Rat)*y k) ((wt+1)*m)=Φ (subst (mono (r / m)) wt d (-b) (-c) a (wt+1)) (img (a*I+b*O) (a*J+b*U) (c*I+d*O) (c*J+d*U) (0,1)) (img (a*I+b*O) (a*J+b*U) (c*I+d*O) (c*J+d*U) (1,0)):=by
  intro r hr I J O U dY
  have gA:0<m:=by
   rcases Nat.eq_zero_or_pos m with h|h
   ·rw[h,Nat.mul_zero]at hr;omega
   ·exact h
  have hj:r % m<m:=Nat.mod_lt _ gA;have hi:r / m<wt+1:=Nat.div_lt_of_lt_mul (by rw[Nat.mul_comm];exact hr);obtain⟨p,hp⟩:∃p,r % m=p:=⟨_,rfl⟩
  obtain⟨i,eP⟩:∃i,r / m=i:=⟨_,rfl⟩
  rw[hp]at hj ⊢;rw[eP]at hi ⊢;obtain⟨g1,g2,g3⟩:=cA p (by rw[hm];exact hj);obtain⟨⟨a,b,c,d⟩,hg⟩:∃g,γ p=g:=⟨_,rfl⟩
  rw[hg]at g1 g2 g3;dsimp only at g1 g2 g3;refine⟨a,b,c,d,hg,g1,?_⟩
  have bE:(a*I+b*O)*(c*J+d*U) - (a*J+b*U)*(c*I+d*O)=1:=by
   have:(a*I+b*O)*(c*J+d*U) - (a*J+b*U)*(c*I+d*O)=(a*d - b*c)*(I*U - J*O):=by grind
   rw[this,g1,dY];rfl
  rw[<-Y.ph_eq bA cA _ bE,hy]
  have gL:Al n D (((pts n (n*n)).getD p 0 / n:Nat)*I+((pts n (n*n)).getD p 0 % n:Nat)*O) (((pts n (n*n)).getD p 0 / n:Nat)*J+((pts n (n*n)).getD p 0 % n:Nat)*U)=Al n D (c*I+d*O) (c*J+d*U):=by
   unfold Al
   have e:∀z t:Int,((((pts n (n*n)).getD p 0 / n:Nat):Int)*z+(((pts n (n*n)).getD p 0 % n:Nat):Int)*t) % n=(c*z+d*t) % n:=λz t=>by
    rw[Int.add_emod,Int.mul_emod _ z,Int.mul_emod _ t,<-g2,<-g3,<-Int.mul_emod,<-Int.mul_emod,<-Int.add_emod]
   rw[e,e]
  have gF:=Hg (D:=D) bA (Dl (n:=n) hn bE);have h6:=Jv (wt:=wt) y (i:=i) (j:=p) gL (λ_=>gF.2);rw[hm]at h6;rw[h6];unfold ph;rw[I8];unfold cP;refine Ac (λl hl=>?_);dsimp only;rw[<-Lp hi,show d*(a*I+b*O)+-b*(c*I+d*O)=I by grind,show d*(a*J+b*U)+-b*(c*J+d*U)=J by grind,show -c*(a*I+b*O)+a*(c*I+d*O)=O by grind,show -c*(a*J+b*U)+a*(c*J+d*U)=U by grind]
 intro r hr;rw[hm]at hr;rw[hy];unfold Lj Li;rw[hm];by_cases hlt:r<(wt+1)*m
 ·simp only[if_pos hlt]
  obtain⟨a,b,c,d,hg,h1,h2⟩:=bB r hlt 0 (-1) 1 0 (by decide);rw[show(gTurn:M4)=(0,-1,1,0)from rfl]
  have h3:sumQ (λk=>(((if k=r then 1 else 0)+Mx n wt (pts n (n*n)) (Bk n D (pts n (n*n)) n) (r / m) (r % m) (0,-1,1,0) k:Int):Rat)*y k) ((wt+1)*m)=y r+sumQ (λk=>(Mx n wt (pts n (n*n)) (Bk n D (pts n (n*n)) n) (r / m) (r % m) (0,-1,1,0) k:Rat)*y k) ((wt+1)*m):=by
   rw[<-Jy (n:=n) (x:=y) (by rw[hm];exact hlt),hm,<-Ap];exact Ac (λk _=>by push_cast;grind)
  rw[h3,h2,<-hy];unfold Mg;rw[hm,hg];dsimp only;have c0:Cu (img a b c d (0,1)):=Ay (by omega) Cu.zero;have c1:Cu (img a b c d (1,0)):=Ay (by omega) Cu.inf
  have e0:img (a*0+b*1) (a * -1+b*0) (c*0+d*1) (c * -1+d*0) (0,1)=img a b c d (1,0):=by
   have:=Td _ _ c1 rfl (Fa (by omega) Cu.inf);unfold img at this ⊢;dsimp only at this ⊢;rw[<-this];congr 1 <;> omega
  have e1:img (a*0+b*1) (a * -1+b*0) (c*0+d*1) (c * -1+d*0) (1,0)=img a b c d (0,1):=by
   unfold img;dsimp only;congr 1 <;> omega
  rw[e0,e1,Y.add _ _ _ _ c0 c1 c0,Y.self _ c0]
 ·simp only[if_neg hlt]
  obtain⟨V,gN⟩:∃V,r - (wt+1)*m=V:=⟨_,rfl⟩
  rw[gN];have Z:V<(wt+1)*m:=by omega
  obtain⟨a,b,c,d,hg,h1,h2⟩:=bB V Z 0 (-1) 1 (-1) (by decide);obtain⟨_,_,_,_,bY,_,dC⟩:=bB V Z (-1) 1 (-1) 0 (by decide);rw[hg]at bY
  obtain⟨rfl,rfl,rfl,rfl⟩:a=_/\b=_/\c=_/\d=_:=by
   injection bY with q1 q2;injection q2 with q2 q3;injection q3 with q3 q4
   exact⟨q1,q2,q3,q4⟩
  rw[show(gThird:M4)=(0,-1,1,-1)from rfl,show(gTwice:M4)=(-1,1,-1,0)from rfl]
  have h3:sumQ (λk=>(((if k=V then 1 else 0)+Mx n wt (pts n (n*n)) (Bk n D (pts n (n*n)) n) (V / m) (V % m) (0,-1,1,-1) k+Mx n wt (pts n (n*n)) (Bk n D (pts n (n*n)) n) (V / m) (V % m) (-1,1,-1,0) k:Int):Rat)*y k) ((wt+1)*m)=y V+sumQ (λk=>(Mx n wt (pts n (n*n)) (Bk n D (pts n (n*n)) n) (V / m) (V % m) (0,-1,1,-1) k:Rat)*y k) ((wt+1)*m)+sumQ (λk=>(Mx n wt (pts n (n*n)) (Bk n D (pts n (n*n)) n) (V / m) (V % m) (-1,1,-1,0) k:Rat)*y k) ((wt+1)*m):=by
   rw[<-Jy (n:=n) (x:=y) (by rw[hm];exact Z),hm,<-Ap,<-Ap];exact Ac (λk _=>by push_cast;grind)
  rw[h3,h2,dC,<-hy];unfold Mg;rw[hm,hg];dsimp only;have c0:Cu (img a b c d (0,1)):=Ay (by omega) Cu.zero;have c1:Cu (img a b c d (1,0)):=Ay (by omega) Cu.inf;have k1:Cu ((1:Int),(1:Int)):=⟨⟨by decide,λh=>absurd h (by decide)⟩,by decide⟩
  have c2:Cu (img a b c d (1,1)):=Ay (by omega) k1;have n2:=Td _ _ c2 rfl (Fa (by omega) k1)
  have e0:img (a*0+b*1) (a * -1+b * -1) (c*0+d*1) (c * -1+d * -1) (0,1)=img a b c d (1,1):=by
   unfold img at n2 ⊢;dsimp only at n2 ⊢;rw[<-n2];congr 1 <;> omega
  have e1:img (a*0+b*1) (a * -1+b * -1) (c*0+d*1) (c * -1+d * -1) (1,0)=img a b c d (0,1):=by
   unfold img;dsimp only;congr 1 <;> omega
  have e2:img (a * -1+b * -1) (a*1+b*0) (c * -1+d * -1) (c*1+d*0) (0,1)=img a b c d (1,0):=by
   unfold img;dsimp only;congr 1 <;> omega
  have e3:img (a * -1+b * -1) (a*1+b*0) (c * -1+d * -1) (c*1+d*0) (1,0)=img a b c d (1,1):=by
   unfold img at n2 ⊢;dsimp only at n2 ⊢;rw[<-n2];congr 1 <;> omega
  rw[e0,e1,e2,e3];have t1:=Y.add (subst (mono (V / m)) wt d (-b) (-c) a (wt+1)) _ _ _ c2 c0 c1;have t2:=Y.add (subst (mono (V / m)) wt d (-b) (-c) a (wt+1)) _ _ _ c2 c1 c2;have t3:=Y.self (subst (mono (V / m)) wt d (-b) (-c) a (wt+1)) c2;grind
end
theorem T0 (leads:Nat->List (Nat×Rat)) (g:Nat->Rat):∀n,sumQ (λf=>if ldOf leads f then 0 else g f) n=sumQ (λi=>g ((frs leads n).getD i 0)) (frs leads n).length
 | 0=>rfl
 | n+1=>by
  rw[sumQ,T0 leads g n,Dm];by_cases h:leads n=[]
  ·rw[if_pos h,Ch h,List.length_append,List.length_singleton,sumQ]
   have e:(frs leads n++[n]).getD (frs leads n).length 0=n:=by
    rw[List.getD_eq_getElem?_getD,List.getElem?_append_right (nR _),Nat.sub_self];rfl
   rw[e];congr 1;refine Ac (λi I=>?_);rw[List.getD_eq_getElem?_getD,List.getD_eq_getElem?_getD,List.getElem?_append_left I]
  ·rw[if_neg h,Dd h,if_pos rfl,Rat.add_zero]
theorem iT {n wt:Nat} {D:Int} (hw:wt<=22) {y:Nat->Rat} (hy:RelZ n wt D y) {j:Nat} (Y:j<cntF n wt):
  y j=sumQ (λi=>B5 (C9 n wt D) (cntF n wt) (cntF n wt) j ((frs (C9 n wt D) (cntF n wt)).getD i 0)*y ((frs (C9 n wt D) (cntF n wt)).getD i 0)) (frs (C9 n wt D) (cntF n wt)).length:=by
 obtain⟨C,hC⟩:∃C,cntF n wt=C:=⟨_,rfl⟩
 have hg:=Hs (n:=n) (D:=D) hw;have hs:=(Mp (n:=cntF n wt) (by omega) (Df (Fm (n:=n) (D:=D) hw)) (D1 _ _) (2*cntF n wt)).2
 have hv:∀r,r<2*cntF n wt->sumQ (λq=>(Ce (cntF n wt) (Ji n wt D) r q:Rat)*y q) (cntF n wt)=0:=λr hr=>by
  rw[<-hy r hr];refine Ac (λk U=>?_);have I:k<cntF n wt:=U
  have e:Ce (cntF n wt) (Ji n wt D) r k=Lj n wt D r k:=by
   unfold Ce Ji;rw[if_pos I]
   have O:(r*cntF n wt+k) / ((wt+1)*(pts n (n*n)).length)=r:=by
    show(r*cntF n wt+k) / cntF n wt=r;rw[Nat.mul_comm,Nat.mul_add_div (by omega),Nat.div_eq_of_lt I,Nat.add_zero]
   have e2:(r*cntF n wt+k) % ((wt+1)*(pts n (n*n)).length)=k:=by
    show(r*cntF n wt+k) % cntF n wt=k;rw[Nat.mul_comm,Nat.mul_add_mod,Nat.mod_eq_of_lt I]
   rw[O,e2]
  rw[e]
 have J:∀j,ldOf (C9 n wt D) j=true->RSp (Ce (cntF n wt) (Ji n wt D)) (2*cntF n wt) (rowOf (C9 n wt D) j):=hs
 obtain⟨w,⟨z,hz,V⟩,e⟩:=Z2 hg (cntF n wt) j (by omega) Y (cntF n wt) (by omega) (nR _);rw[hC]at hv J hg e V hz Y ⊢;obtain⟨ld,h⟩:∃ld,C9 n wt D=ld:=⟨_,rfl⟩
 rw[h]at J hg e V hz ⊢
 have h1:∀l,ldOf ld l=true->sumQ (λq=>rowOf ld l q*y q) C=0:=λl Z=>by
  obtain⟨t,ht⟩:=J l Z
  have O:sumQ (λq=>rowOf ld l q*y q) C=sumQ (λq=>sumQ (λi=>t i*((Ce C (Ji n wt D) i q:Rat)*y q)) (2*C)) C:=Ac (λq _=>by
   rw[ht q,show sumQ (λi=>t i*(Ce C (Ji n wt D) i q:Rat)) (2*C)*y q=y q*sumQ (λi=>t i*(Ce C (Ji n wt D) i q:Rat)) (2*C)by grind,<-Am];exact Ac (λi _=>by grind))
  rw[O,Di];refine A8 (λi hi=>?_);rw[Am,hv i hi];grind
 have h2:sumQ (λq=>w q*y q) C=0:=by
  have O:sumQ (λq=>w q*y q) C=sumQ (λq=>sumQ (λl=>z l*(rowOf ld l q*y q)) C) C:=Ac (λq _=>by
   rw[V q,show sumQ (λl=>z l*rowOf ld l q) C*y q=y q*sumQ (λl=>z l*rowOf ld l q) C by grind,<-Am];exact Ac (λi _=>by grind))
  rw[O,Di];refine A8 (λl Z=>?_);rw[Am];cases hb:ldOf ld l with
  | false=>rw[hz l Z hb];grind
  | true=>rw[h1 l hb];grind
 have h3:y j=sumQ (λq=>(if q=j then(1:Rat)else 0)*y q) C:=by
  rw[Bc Y]
  ·rw[if_pos rfl,Rat.one_mul]
  ·intro k _ U
   rw[if_neg U,Rat.zero_mul]
 have h4:sumQ (λq=>(if q=j then(1:Rat)else 0)*y q) C=sumQ (λq=>sumQ (λf=>(if ldOf ld f then 0 else B5 ld C C j f)*(rowOf ld f q*y q)) C) C+sumQ (λq=>w q*y q) C:=by
  rw[<-Ap];refine Ac (λq hq=>?_);rw[e q,show(sumQ (λf=>(if ldOf ld f then 0 else B5 ld C C j f)*rowOf ld f q) C+w q)*y q=y q*sumQ (λf=>(if ldOf ld f then 0 else B5 ld C C j f)*rowOf ld f q) C+w q*y q by grind,<-Am];congr 1;exact Ac (λi _=>by grind)
 rw[h3,h4,h2,Rat.add_zero,Di,<-T0 ld (λf=>B5 ld C C j f*y f) C];refine Ac (λf hf=>?_);rw[Am];cases hb:ldOf ld f with
 | true=>simp
 | false=>
  have e5:sumQ (λq=>rowOf ld f q*y q) C=y f:=by
   rw[Bc hf]
   ·unfold rowOf;rw[hb];simp
   ·intro k _ U
    unfold rowOf;rw[hb];simp[U]
  rw[e5];simp
theorem cW {n wt:Nat} {D:Int} (Z:wt<=22) {i k:Nat} (I:i<(frs (C9 n wt D) (cntF n wt)).length) (V:k<(frs (C9 n wt D) (cntF n wt)).length):
  B5 (C9 n wt D) (cntF n wt) (cntF n wt) ((frs (C9 n wt D) (cntF n wt)).getD i 0) ((frs (C9 n wt D) (cntF n wt)).getD k 0)=if k=i then 1 else 0:=by
 have Y:∀i,i<(frs (C9 n wt D) (cntF n wt)).length->(frs (C9 n wt D) (cntF n wt)).getD i 0∈frs (C9 n wt D) (cntF n wt):=λi I=>Ax I
 obtain⟨O,U⟩:=Ht.1 (Y i I);have J:(frs (C9 n wt D) (cntF n wt)).Nodup:=(Hu _ _).imp (λh=>Nat.ne_of_lt h);rw[Kw (Hs Z) (by omega) (nR _) O U];by_cases h:k=i
 ·rw[h,if_pos rfl,if_pos rfl]
 ·rw[if_neg h,if_neg (λe=>h (Pv J V I e))]
structure Crd (n wt:Nat) (D:Int) (F:List Nat) (X:Nat->Nat->Rat):Prop where
 rel:∀f,f∈F->RelZ n wt D (λj=>X j f)
 span:∀y,RelZ n wt D y->∀j,j<cntF n wt->y j=sumQ (λi=>X j (F.getD i 0)*y (F.getD i 0)) F.length
 low:∀f,f∈F->f<cntF n wt
 one:∀i k,i<F.length->k<F.length->X (F.getD i 0) (F.getD k 0)=if k=i then 1 else 0
theorem Rt {n wt:Nat} {D:Int} (J:wt<=22):Crd n wt D (frs (C9 n wt D) (cntF n wt)) (B5 (C9 n wt D) (cntF n wt) (cntF n wt)) where
 rel:=λ_ I=>J1 J I
 span:=λ_ Y _ U=>iT J Y U
 low:=λ_ I=>(Ht.1 I).1
 one:=λ_ _ O V=>cW J O V
section
variable {n wt:Nat} {D:Int} {F:List Nat} {X:Nat->Nat->Rat}
theorem Tn (I:Pl.check n ((wt:Int)+2) D=0) (Z:Crd n wt D F X) {y:Nat->Rat} (hy:RelZ n wt D y) (Q:Nat->Rat) {a b c d:Int} (h:a*d - b*c=1):
  ph n wt D y Q a b c d=sumQ (λi=>y (F.getD i 0)*ph n wt D (λj=>X j (F.getD i 0)) Q a b c d) F.length:=by
 obtain⟨⟨a1,a2⟩,_⟩:=Pl.check_ok I;have J:=Hg (D:=D) I (Dl (n:=n) (by omega) h);unfold ph cP;obtain⟨p,hp⟩:∃p,Al n D c d=p:=⟨_,rfl⟩
 rw[hp]at J ⊢
 have U:∀i,i<wt+1->y (i*(pts n (n*n)).length+p.1)=sumQ (λk=>X (i*(pts n (n*n)).length+p.1) (F.getD k 0)*y (F.getD k 0)) F.length:=λi O=>Z.span y hy _ (by
  have Y:i*(pts n (n*n)).length+p.1<(i+1)*(pts n (n*n)).length:=by rw[Nat.succ_mul];have:=J.2;omega
  exact nT Y (Nat.mul_le_mul_right _ (by omega)))
 have V:sumQ (λi=>subst Q wt a b c d (wt+1) i*(p.2:Rat)*y (i*(pts n (n*n)).length+p.1)) (wt+1)=sumQ (λi=>sumQ (λk=>y (F.getD k 0)*(subst Q wt a b c d (wt+1) i*(p.2:Rat)*X (i*(pts n (n*n)).length+p.1) (F.getD k 0))) F.length) (wt+1):=Ac (λi O=>by
  rw[U i O,<-Am];exact Ac (λk _=>by grind))
 rw[V,Di];exact Ac (λk _=>by rw[Am])
theorem Vz (I:Pl.check n ((wt:Int)+2) D=0) (J:Crd n wt D F X) {y:Nat->Rat} (O:RelZ n wt D y) (Q:Nat->Rat) {u v:Int×Int} (h:Nb u v):
  Ah n wt D y Q u v=sumQ (λi=>y (F.getD i 0)*Ah n wt D (λj=>X j (F.getD i 0)) Q u v) F.length:=by
 unfold Ah;rcases h with h|h
 ·simp only[if_pos h]
  exact Tn I J O Q h
 ·have U:¬v.1*u.2 - u.1*v.2=1:=by omega
  simp only[if_neg U];exact Tn I J O Q (by grind)
theorem Ge (st:Int×Int->Int×Int->Rat):Pot st (1,0)=0:=rfl
theorem Qe (J:Pl.check n ((wt:Int)+2) D=0) (V:Crd n wt D F X) {y:Nat->Rat} (Y:RelZ n wt D y) (Q:Nat->Rat):∀u,Cu u->Pot (Ah n wt D y Q) u=sumQ (λi=>y (F.getD i 0)*Pot (Ah n wt D (λj=>X j (F.getD i 0)) Q) u) F.length:=by
 refine Kx ?_ (λz t hz ht h I O U Z=>?_)
 ·rw[Ge,A8 (λi _=>?_)]
  rw[Ge,Rat.mul_zero]
 ·rw[Ck I O U,Z,Vz J V Y Q (Nb.symm (.inl I)),<-Ap]
  exact Ac (λi _=>by rw[Ck (st:=Ah n wt D (λj=>X j (F.getD i 0)) Q) I O U];grind)
theorem PF.coords {Φ:(Nat->Rat)->Int×Int->Int×Int->Rat} {γ:Nat->M4} (I:Pl.check n ((wt:Int)+2) D=0) (U:Crd n wt D F X) (J:PF n wt D Φ) (O:Dj n γ) (Q:Nat->Rat) {u v:Int×Int} (V:Cu u) (Y:Cu v):
  Φ Q u v=sumQ (λi=>(Pot (Ah n wt D (λj=>X j (F.getD i 0)) Q) v - Pot (Ah n wt D (λj=>X j (F.getD i 0)) Q) u)*Mg wt (pts n (n*n)).length γ Φ (F.getD i 0)) F.length:=by
 have Z:=J.rel I O;rw[<-J.pot_eq I O Q V Y,Qe I U Z Q v Y,Qe I U Z Q u V]
 have e:∀a b:Nat->Rat,∀m,sumQ a m - sumQ b m=sumQ (λi=>a i - b i) m:=λa b m=>by
  induction m with
  | zero=>show(0:Rat) - 0=0;grind
  | succ m ih=>rw[sumQ,sumQ,sumQ,<-ih];grind
 rw[e];exact Ac (λi _=>by grind)
end
section
variable {n wt:Nat} {D:Int} {x:Nat->Rat}
theorem Ln (q:Nat->Rat) (f:Nat->Nat->Rat) (m:Nat) (a b c d:Int) (l:Nat):
  subst (λj=>sumQ (λi=>q i*f i j) m) wt a b c d (wt+1) l=sumQ (λi=>q i*subst (f i) wt a b c d (wt+1) l) m:=by
 unfold subst
 have I:sumQ (λi=>sumQ (λk=>q k*f k i) m*(mv i a b c d wt l:Rat)) (wt+1)=sumQ (λi=>sumQ (λk=>q k*(f k i*(mv i a b c d wt l:Rat))) m) (wt+1):=Ac (λi _=>by
  rw[show sumQ (λk=>q k*f k i) m*(mv i a b c d wt l:Rat)=(mv i a b c d wt l:Rat)*sumQ (λk=>q k*f k i) m by grind,<-Am];exact Ac (λk _=>by grind))
 rw[I,Di];exact Ac (λk _=>by rw[Am])
theorem Lo {Q Q':Nat->Rat} (h:∀j,j<wt+1->Q j=Q' j) (a b c d:Int):subst Q wt a b c d (wt+1)=subst Q' wt a b c d (wt+1):=funext λl=>by
 unfold subst;exact Ac (λi I=>by rw[h i I])
theorem R7 (q:Nat->Rat) (f:Nat->Nat->Rat) (m:Nat) (a b c d:Int):ph n wt D x (λj=>sumQ (λi=>q i*f i j) m) a b c d=sumQ (λi=>q i*ph n wt D x (f i) a b c d) m:=by
 unfold ph;rw[<-Nl];unfold cP;exact Ac (λi _=>by rw[Ln])
theorem aD (q:Nat->Rat) (f:Nat->Nat->Rat) (m:Nat) (u v:Int×Int):Ah n wt D x (λj=>sumQ (λi=>q i*f i j) m) u v=sumQ (λi=>q i*Ah n wt D x (f i) u v) m:=by
 unfold Ah;by_cases h:v.1*u.2 - u.1*v.2=1
 ·simp only[if_pos h];exact R7 q f m _ _ _ _
 ·simp only[if_neg h];exact R7 q f m _ _ _ _
theorem Ts (q:Nat->Rat) (f:Nat->Nat->Rat) (m:Nat):∀u,Cu u->Pot (Ah n wt D x (λj=>sumQ (λi=>q i*f i j) m)) u=sumQ (λi=>q i*Pot (Ah n wt D x (f i)) u) m:=by
 refine Kx ?_ (λz t Z Y V I J O U=>?_)
 ·rw[Ge,A8 (λi _=>?_)]
  rw[Ge,Rat.mul_zero]
 ·rw[Ck I J O,U,aD,<-Ap]
  exact Ac (λi _=>by rw[Ck (st:=Ah n wt D x (f i)) I J O];grind)
theorem To {Q Q':Nat->Rat} (h:∀j,j<wt+1->Q j=Q' j) (a b c d:Int):ph n wt D x Q a b c d=ph n wt D x Q' a b c d:=by
 unfold ph;rw[Lo h]
theorem V0 {Q Q':Nat->Rat} (h:∀j,j<wt+1->Q j=Q' j):Ah n wt D x Q=Ah n wt D x Q':=funext λu=>funext λv=>by
 unfold Ah;rw[To h,To h]
noncomputable def clG (n wt:Nat) (D:Int) (x:Nat->Rat) (A B C E:Int) (Q:Nat->Rat) (u v:Int×Int):Rat:=
 Pot (Ah n wt D x (subst Q wt E (-B) (-C) A (wt+1))) (img A B C E v) - Pot (Ah n wt D x (subst Q wt E (-B) (-C) A (wt+1))) (img A B C E u)
end
def jF (n n':Nat) (D A B C E:Int):Prop:=∀(a b c d:Int) (s:Nat),G0 n a b c d->1<=s->s<=n->pun n s=true->(s:Int) % n=d % n ->
 ∃(a' b' c' d':Int) (s':Nat),G0 n' a' b' c' d'/\1<=s'/\s'<=n'/\pun n' s'=true/\(s':Int) % n'=d' % n'/\Pl.kroP D s'=Pl.kroP D s/\A*a+B*c=a'*A+b'*C/\A*b+B*d=a'*B+b'*E/\C*a+E*c=c'*A+d'*C/\C*b+E*d=c'*B+d'*E
theorem PF.of_norm {n U wt:Nat} {D A B C E:Int} {x:Nat->Rat} (J:Pl.check U ((wt:Int)+2) D=0) (hR:RelZ U wt D x) (I:A*E - B*C≠0) (hN:jF n U D A B C E):PF n wt D (clG U wt D x A B C E) where
 congr Q Q' u v h:=by
  unfold clG;rw[Lo h]
 lin q f m u v hu hv:=by
  unfold clG;have e0:subst (λj=>sumQ (λi=>q i*f i j) m) wt E (-B) (-C) A (wt+1)=λj=>sumQ (λi=>q i*subst (f i) wt E (-B) (-C) A (wt+1) j) m:=funext λl=>Ln q f m _ _ _ _ l
  have e:∀a b:Nat->Rat,∀m,sumQ a m - sumQ b m=sumQ (λi=>a i - b i) m:=λa b m=>by
   induction m with
   | zero=>show(0:Rat) - 0=0;grind
   | succ m ih=>rw[sumQ,sumQ,sumQ,<-ih];grind
  rw[e0,Ts q (λi=>subst (f i) wt E (-B) (-C) A (wt+1)) m _ (Ay I hv),Ts q (λi=>subst (f i) wt E (-B) (-C) A (wt+1)) m _ (Ay I hu),e];exact Ac (λi _=>by grind)
 add Q u v z _ _ _:=by
  unfold clG;grind
 move Q a b c d s u v hg h1 h2 h3 h4 hu hv:=by
  obtain⟨V,Y,Z,d',s',O,bA,bB,bC,bE,hk,e1,e2,e3,e4⟩:=hN a b c d s hg h1 h2 h3 h4
  have hi:∀y,Cu y->img A B C E (img a b c d y)=img V Y Z d' (img A B C E y):=λy hy=>by
   rw[Fb (by rw[hg.det];decide) I hy,Fb I (by rw[O.det];decide) hy,e1,e2,e3,e4]
  unfold clG;rw[hi u hu,hi v hv,I8,<-hk,<-Qf J hR O bA bB bC bE (Ay I hu) (Ay I hv),I8];have f1:d*E+-b * -C=E*d'+-B * -Z:=by grind
  have f2:d * -B+-b*A=E * -Y+-B*V:=by grind
  have f3:-c*E+a * -C=-C*d'+A * -Z:=by grind
  have f4:-c * -B+a*A=-C * -Y+A*V:=by grind
  rw[f1,f2,f3,f4]
end
section
open Go.RowKit Eli Tryz
theorem gQ {p q:Int} (h:At p q=0):Cu (p,q):=by
 obtain⟨_,⟨O,U⟩,J⟩:=cuspE_zero h;unfold At at h;split at h
 ·omega
 ·rename_i h6
  split at h
  ·omega
  ·rename_i h7
   exact⟨⟨by show 0<=q;omega,λI=>by have V:q=0:=I;show p=1;omega⟩,J⟩
theorem Ni {a b c d p q:Int} (I:a*d - b*c≠0) (Z:At p q=0) (h1:(a*p+b*q).natAbs<=1073741824) (h2:(c*p+d*q).natAbs<=1073741824):
  Ec a b c d p q=(img a b c d (p,q),0)/\At (img a b c d (p,q)).1 (img a b c d (p,q)).2=0/\(img a b c d (p,q)).1.natAbs<=(a*p+b*q).natAbs/\(img a b c d (p,q)).2.natAbs<=(c*p+d*q).natAbs:=by
 obtain⟨k,x,y,hk,hg,e1,e2,J,⟨O,U⟩,V,Y⟩:=D5 (Fa I (gQ Z));have hi:img a b c d (p,q)=(x,y):=J;have h:Io x=true:=Du.2 (by dsimp only at V;omega);have i2:Io y=true:=Du.2 (by dsimp only at Y;omega);rw[hi];refine⟨?_,?_,V,Y⟩
 ·unfold Ec
  dsimp only at J;rw[if_neg (by simp[Z]),J,if_pos ⟨h,i2⟩]
 ·unfold At
  rw[if_neg (by rw[h,i2];simp;exact O),if_neg (by rw[hg];simp;exact U)]
theorem gR:At 0 1=0:=by decide
theorem gT:At 1 0=0:=by decide
theorem Qv {A B C E:Int} (O:A*E - B*C=1) (bA:-20000<=A/\A<=20000) (bB:-20000<=B/\B<=20000) (bC:-20000<=C/\C<=20000) (bE:-20000<=E/\E<=20000):
  (Ec A B C E 0 1=(img A B C E (0,1),0)/\At (img A B C E (0,1)).1 (img A B C E (0,1)).2=0/\(img A B C E (0,1)).1.natAbs<=20000/\(img A B C E (0,1)).2.natAbs<=20000) /\
  (Ec A B C E 1 0=(img A B C E (1,0),0)/\At (img A B C E (1,0)).1 (img A B C E (1,0)).2=0/\(img A B C E (1,0)).1.natAbs<=20000/\(img A B C E (1,0)).2.natAbs<=20000):=by
 have I:=Ni (a:=A) (b:=B) (c:=C) (d:=E) (by omega) gR (by omega) (by omega);have J:=Ni (a:=A) (b:=B) (c:=C) (d:=E) (by omega) gT (by omega) (by omega);refine⟨⟨I.1,I.2.1,?_,?_⟩,J.1,J.2.1,?_,?_⟩
 ·have:=I.2.2.1;omega
 ·have:=I.2.2.2;omega
 ·have:=J.2.2.1;omega
 ·have:=J.2.2.2;omega
theorem F8 {a:Int} (I:-1000000000000<=a) (J:a<=1000000000000):nd a.natAbs<=2:=Bj.2 (by omega)
theorem N6 (i j:Nat):hq (mono i j)<=1:=by
 unfold mono;split
 ·decide
 ·decide
noncomputable def symP (wt t:Nat) (A B C E:Int):Nat->Rat:=subst (mono t) wt E (-B) (-C) A (wt+1)
theorem V4 {wt t:Nat} {A B C E:Int} (I:wt<=22) (bA:-1000000000000<=A/\A<=1000000000000) (bB:-1000000000000<=B/\B<=1000000000000) (bC:-1000000000000<=C/\C<=1000000000000) (bE:-1000000000000<=E/\E<=1000000000000) (j:Nat):hq (symP wt t A B C E j)<=4000:=
 Dz (K:=4) (λi _=>nS (N6 t i) (by decide)) (F8 bE.1 bE.2) (F8 (by omega) (by omega)) (F8 (by omega) (by omega)) (F8 bA.1 bA.2) (by omega) (by omega)
theorem fX (M n wt:Nat) (D:Int) (F:List Nat) (C0:Nat) (X:Nat->Nat->Rat) (j q t:Nat) (w:World) (hT:Tab w) (hM:ModR w M n wt D F C0 X) (hj:j<(wt+1)*(pts n (n*n)).length) (hq:j % (pts n (n*n)).length=q) (ht:j / (pts n (n*n)).length=t):
  Calls prog 61 #[.pointer (some ⟨M,0,none⟩),.int .i64 j] w λe w'=>(∃(A B C E:Int) (g cap:Nat),e=.returned (.tuple #[.agg #[.slice (some ⟨g,0,none⟩) (wt+1) cap,.int .i64 (img A B C E (0,1)).1,.int .i64 (img A B C E (0,1)).2,.int .i64 (img A B C E (1,0)).1,.int .i64 (img A B C E (1,0)).2],.int .i64 0])/\LiftOf n q A B C E/\w.heap.size<=g/\QRow (λi=>IsQ (symP wt t A B C E i)) w' g (wt+1) (wt+1))/\Below w.heap.size w w':=by
 obtain⟨h1,h2,h3,h4,h5,h6⟩:=Av hM.check
 have pJ:0<(pts n (n*n)).length:=by
  rcases Nat.eq_zero_or_pos (pts n (n*n)).length with h|h
  ·rw[h,Nat.mul_zero]at hj;omega
  ·exact h
 have mB:q<(pts n (n*n)).length:=by rw[<-hq];exact Nat.mod_lt _ pJ
 have mC:t<wt+1:=by rw[<-ht];exact Nat.div_lt_of_lt_mul (by rw[Nat.mul_comm];exact hj)
 obtain⟨a,ha⟩:∃a,(pts n (n*n)).getD q 0=a:=⟨_,rfl⟩
 obtain⟨u,hu⟩:∃u,a / n=u:=⟨_,rfl⟩
 obtain⟨v,hv⟩:∃v,a % n=v:=⟨_,rfl⟩
 have oX:=Kh (λW (hb:Below w.heap.size w W)=>Nt M w.heap.size n ((wt:Int)+2) D F C0 X W (hM.mod.keep (nR _) hb) hb.size);have oN:=Kh (λW (hb:Below w.heap.size w W)=>fU n wt D j q t a u v W (hT.below hb) hM.check hj hq ht ha hu hv);have oI:=Kh (λW=>bM n q a u v W (by omega) (by omega) mB ha hu hv);have oJ:=Kh (λW=>fS n q W (by omega) (by omega) mB);have sF:0<n:=by omega
 have qU:n<=120:=by omega
 have sK:wt<=22:=by omega
 have pP:=Hx (wt+1) (by omega);clear hT hM hj hq ht ha hu hv h1 h2 h3 h4 h5 h6 pJ mB;go_enter func61,ntmps61
 go_wp2_with fail
 obtain⟨w0,pS,X0,pK⟩:=bx1 w #[.slice none 0 0,.int .i64 0,.int .i64 0,.int .i64 0,.int .i64 0] 57;rw[pS];obtain⟨gr,hX⟩:∃x,w.heap.size=x:=⟨_,rfl⟩
 have cD:=Kh (show w.heap.size<=gr by omega);rw[hX]at X0;try rw[hX]
 have oY:=Kh X0;have hE:=Kh pK;clear pS X0 pK hX;refine(oX.1 w0 hE.1).mono ?_;rintro e w1 ⟨rfl,hR⟩;have oZ:=Kh (bk oY hR);have nZ:=bt hE hR;clear hR oY hE oX;go_wp2_with fail
 obtain⟨w2,pT,S2,hS⟩:=bx1 w1 #[.int .i64 n,.int .i64 ((wt:Int)+2),.int .i64 D] 23;rw[pT];obtain⟨gs,pO⟩:∃x,w1.heap.size=x:=⟨_,rfl⟩
 rw[pO]at S2 ⊢;have oS:=Kh S2;have pA:=Kh (bk oZ hS);have hG:=bt nZ hS;clear pT S2 hS pO oZ nZ;refine(oN.1 w2 hG.1).mono ?_;rintro e w3 ⟨rfl,gS⟩;have oT:=Kh (bk oS gS);have pB:=Kh (bk pA gS);have oB:=bt hG gS;clear gS oS pA hG oN;go_upto_region 5 with(fail)
 obtain⟨w4,pU,M4,gU⟩:=bx1 w3 #[.int .i64 (t:Int),.int .i64 (u:Int),.int .i64 (v:Int)] 180;rw[pU];obtain⟨gm,pN⟩:∃x,w3.heap.size=x:=⟨_,rfl⟩
 rw[pN]at M4 ⊢;have oK:=Kh M4;have hO:=Kh (bk oT gU);have pC:=Kh (bk pB gU);have oC:=bt oB gU;have s0:=hO.1.at_ 0 rfl;have k1:=M4.at_ 1 rfl;have k2:=M4.at_ 2 rfl;clear pU M4 gU pN oT pB oB;go_wp2_with fail
 refine(oI.1 w4).mono ?_;rintro e w5 ⟨rfl,cX⟩;have oL:=Kh (bk oK cX);have hP:=Kh (bk hO cX);have pD:=Kh (bk pC cX);have oD:=bt oC cX;clear s0 k1 k2 cX oK hO pC oC oI;have s0:=hP.1.at_ 0 rfl;go_wp2_with fail
 refine(oJ.1 w5).mono ?_;rintro e w6 ⟨⟨A,B,C,E,rfl,hL⟩,dC⟩;have oM:=Kh (bk oL dC);have oU:=Kh (bk hP dC);have pE:=Kh (bk pD dC);have oE:=bt oD dC;have HL:=Kh hL;clear s0 dC hL oL hP pD oD oJ;go_upto_region 11 with(fail)
 obtain⟨w7,pV,G7,dE⟩:=bx1 w6 #[.int .i64 A,.int .i64 B,.int .i64 C,.int .i64 E] 63;rw[pV];obtain⟨gg,pM⟩:∃x,w6.heap.size=x:=⟨_,rfl⟩
 rw[pM]at G7 ⊢;have hI:=Kh G7;have hN:=Kh (bk oM dE);have oV:=Kh (bk oU dE);have hQ:=Kh (bk pE dE);have hH:=bt oE dE;clear pV G7 dE pM oM oU pE oE;have s1:=oV.1.at_ 1 rfl;obtain⟨L,hL⟩:∃L,wt+1=L:=⟨_,rfl⟩
 have qR:(wt:Int)+2 - 1=(L:Int):=by omega
 rw[hL]at pP mC;have gL:=Kh hL;have qS:L<=23:=by omega
 clear hL;go_wp2_with fail
 have hB:=QRow.made (λ_=>IsQ (((0:Int)):Rat)) w7 L;obtain⟨wy,mD⟩:∃wy,w7.alloc (.cells (madeCells #[.bool false,.slice none 0 0,.bool false,.slice none 0 0] (L*4)) 86)=wy:=⟨_,rfl⟩
 have hU:Below w7.heap.size w7 wy:=mD▸(Below.refl _ _).alloc (nR _) _;rw[mD]at hB ⊢;obtain⟨V,hW⟩:∃g,w7.heap.size=g:=⟨_,rfl⟩
 have hJ:=Kh hW;rw[hW]at hB hU ⊢;have oO:=Kh hB;have oG:=Kh hU;clear hB hU mD hW s1 pP qR;go_loopw [12,59] (λ_ ii wr=>∃k:Nat,k<=L/\ii=.int .i64 k/\QRow (λ_=>IsQ (((0:Int)):Rat)) wr V L k/\Below V w7 wr) (λ_ ii _=>L - (intOf ii).toNat)
 case atStart=>exact⟨0,Nat.zero_le _,rfl,oO.1,oG.1⟩
 case round=>
  obtain⟨k,hk,rfl,J,pL⟩:=hrel;obtain⟨w9,rfl⟩:∃w9:World,w9=wr:=⟨_,rfl⟩
  have cF:=Kh J;have gF:=Kh pL;clear J pL oO oG;by_cases hlt:k<L
  ·have sE:(k:Int)<(L:Int):=by omega
   go_wp2_with fail
   refine(En 0 w9 (by omega) (by omega)).mono ?_;rintro e w8 ⟨⟨s6,p6,n6,c6,t6,q6,m6,d6,rfl,gA⟩,cA⟩;have O:=cF.1.keep (λ_=>IsQ.solid _) cA;have Z:=Kh (QRow.set (k':=k+1) (λ_=>IsQ.solid _) O k hlt (λ_=>IsQ (((0:Int)):Rat)) (IsQ.solid _) (λi h1 h2=>⟨by omega,rfl⟩) (show IsQ (((0:Int)):Rat) w8 s6 p6 n6 c6 t6 q6 m6 d6 from gA));have bY:=Kh (gF.1.trans (cA.mono (Nat.le_of_lt cF.1.sts.1)));obtain⟨u0,sH⟩:=nV (O.has (k*4) (by omega));obtain⟨u1,sI⟩:=nV (O.has (k*4+1) (by omega));obtain⟨u2,hu2⟩:=nV (O.has (k*4+2) (by omega));obtain⟨u3,sJ⟩:=nV (O.has (k*4+3) (by omega));have f0:=O.free (k*4) (by omega);have f1:=O.free (k*4+1) (by omega);have f2:=O.free (k*4+2) (by omega);have f3:=O.free (k*4+3) (by omega);clear cA O gA;go_wp2;go_roundw
   case rel=>exact⟨k+1,by omega,by go_num,Z.1,Bb bY.1⟩
   case measure=>simp[intOf];omega
  ·obtain rfl:L=k:=by omega
   have x0:=(hN.1.below_ gF.1 (nT hN.1.lt (Nat.le_of_eq hJ.1))).at_ 0 rfl;have J:=cF.1;have dY:=J.free;have oR:=Kh (Nat.le_of_lt J.sts.1);obtain⟨s0,p0,n0,c0,t0,q0,m0,d0,a0,a1,a2,a3,_⟩:=J.val t mC;have sG:(t:Int)<(L:Int):=by omega
   clear J;go_upto_region 19 with(fail)
   refine J2 (λW=>W.cell? ⟨gm,0,none⟩=some (.int .i64 (t:Int))/\W.cell? ⟨V,t*4,none⟩=some (.bool s0)/\W.frozen? ⟨V,t*4,none⟩=false/\W.cell? ⟨V,t*4+1,none⟩=some (.slice p0 n0 c0)/\W.frozen? ⟨V,t*4+1,none⟩=false/\W.cell? ⟨V,t*4+2,none⟩=some (.bool t0)/\W.frozen? ⟨V,t*4+2,none⟩=false/\W.cell? ⟨V,t*4+3,none⟩=some (.slice q0 m0 d0)/\W.frozen? ⟨V,t*4+3,none⟩=false) (λW hb=>⟨Aq hb x0,Aq hb a0,Ab hb (by rw[a0];rfl) (dY (t*4) (by omega)),Aq hb a1,Ab hb (by rw[a1];rfl) (dY (t*4+1) (by omega)),Aq hb a2,Ab hb (by rw[a2];rfl) (dY (t*4+2) (by omega)),Aq hb a3,Ab hb (by rw[a3];rfl) (dY (t*4+3) (by omega))⟩) (λoW hHeld0=>?_);refine Aj 0 ?_;refine Aj 1 ?_;refine Aj 2 ?_;refine G6 3 rfl (λK hK=>?_);focus(go_simp;refine(En 1 w9.drew (by omega) (by omega)).mono ?_;rintro e w8 ⟨⟨s6,p6,n6,c6,t6,q6,m6,d6,rfl,gA⟩,cA⟩;have bY:=Kh ((Below.refl _ w9).drew.trans cA:Below w9.heap.size w9 w8);have pR:=cF.1.keep (λ_=>IsQ.solid _) bY.1;have Z:=Kh (QRow.set (k':=L) (λ_=>IsQ.solid _) pR t mC (λq=>IsQ (if q=t then(((1:Int)):Rat)else(((0:Int)):Rat))) (IsQ.solid _) (λi h1 h2=>⟨h1,by rw[if_neg h2]⟩) (by rw[if_pos rfl];exact gA));have oF:=Kh (gF.1.trans (bY.1.mono oR.1));clear cA gA pR;(first|with_reducible refine hK.out _ _ ?_ (λhHeld1=>?_) |(go_wp2_with fail;with_reducible refine hK.out _ _ ?_ (λhHeld1=>?_))))
   focus((try dsimp only);exact oW.1 _ bY.1)
   focus(clear hK K;(try simp only[Act.put,Bo,Bt,Bp]))
   refine Aj 4 ?_;refine Js 5 rfl (λK hK=>?_);go_simp
   refine hK.out _ _ ?_;clear hK K
   (try simp only[Act.put,Bo,Bt,Bp])
   have eP:=Z.1;have U:=Bb (i:=t*4) (j:=t*4+1) (k:=t*4+2) (l:=t*4+3) (v0:=.bool s6) (v1:=.slice p6 n6 c6) (v2:=.bool t6) (v3:=.slice q6 m6 d6) oF.1;obtain⟨mE,hD⟩:∃mE,(((w8.setCell ⟨V,t*4,none⟩ (.bool s6)).setCell ⟨V,t*4+1,none⟩ (.slice p6 n6 c6)).setCell ⟨V,t*4+2,none⟩ (.bool t6)).setCell ⟨V,t*4+3,none⟩ (.slice q6 m6 d6)=mE:=⟨_,rfl⟩
   rw[hD]at eP U ⊢;have hV:∀{g:Nat},g<w7.heap.size->g<V:=λh=>nT h (Nat.le_of_eq hJ.1)
   have oP:=Kh (QRow.congr (G:=λi=>IsQ (mono t i)) eP (λi _=>by
    unfold mono;congr 1))
   have cG:=Kh (hQ.1.below_ U (hV hQ.1.lt));have cC:=Kh (hH.1.trans (U.mono (nS hH.1.size (Nat.le_of_eq hJ.1))));have cB:=hI.1.below_ U (hV hI.1.lt);have g0:=cB.at_ 0 rfl;have g1:=cB.at_ 1 rfl;have g2:=cB.at_ 2 rfl;have g3:=cB.at_ 3 rfl;clear eP U hD hV cB dY x0 a0 a1 a2 a3 oW hHeld0 hHeld1 Z oF gF cF bY hN oV hQ hI hH;have Y:=HL.1;obtain⟨⟨e1,_⟩,e2,_⟩:=Qv Y.det Y.bA Y.bB Y.bC Y.bE;have gN:=Kh (Hq 4 (by decide) (by decide) (.slice (some ⟨V,0,none⟩) L L) L (λi=>(mono t i).num) (λi=>((mono t i).den:Int)) 0 1 1 0 A B C E mE ((oP.1.ql L).isB (λi _=>nS (N6 t i) (by decide))) (by omega) qS (by have:=Y.bA;omega) (by have:=Y.bA;omega) (by have:=Y.bB;omega) (by have:=Y.bB;omega) (by have:=Y.bC;omega) (by have:=Y.bC;omega) (by have:=Y.bE;omega) (by have:=Y.bE;omega) (by rw[Y.det];decide) (by decide) (by decide) (by decide) (by decide) (by decide) (by decide) (by decide) (by decide));have he:jD A B C E 0 1 1 0=0:=by unfold jD;rw[e1,e2];rfl
   rw[e1,e2,he,show(λi=>Rat.divInt (mono t i).num ((mono t i).den:Int))=mono t from funext λi=>Rat.num_divInt_den _]at gN;rw[show L - 1=wt by have:=gL.1;omega]at gN;clear Y e1 e2 he;go_wp2_with fail
   refine gN.1.mono ?_;rintro e nA ⟨pQ,cT⟩;obtain⟨_,g,cap,rfl,hg,J⟩:=pQ.resolve_left (λh=>h.1 rfl);obtain⟨i0,hY⟩:∃i,(img A B C E (0,1)).1=i:=⟨_,rfl⟩
   obtain⟨i1,hZ⟩:∃i,(img A B C E (0,1)).2=i:=⟨_,rfl⟩
   obtain⟨i2,iL⟩:∃i,(img A B C E (1,0)).1=i:=⟨_,rfl⟩
   obtain⟨i3,mA⟩:∃i,(img A B C E (1,0)).2=i:=⟨_,rfl⟩
   have qJ:=Kh (λW (g cap:Nat) (h1:w.heap.size<=g) (h2:QRow (λi=>IsQ (symP wt t A B C E i)) W g (wt+1) (wt+1))=>(show ∃(A B C E:Int) (g' pG:Nat),Ending.returned (.tuple #[.agg #[.slice (some ⟨g,0,none⟩) (wt+1) cap,.int .i64 i0,.int .i64 i1,.int .i64 i2,.int .i64 i3],.int .i64 0])=.returned (.tuple #[.agg #[.slice (some ⟨g',0,none⟩) (wt+1) pG,.int .i64 (img A B C E (0,1)).1,.int .i64 (img A B C E (0,1)).2,.int .i64 (img A B C E (1,0)).1,.int .i64 (img A B C E (1,0)).2],.int .i64 0])/\LiftOf n q A B C E/\w.heap.size<=g'/\QRow (λi=>IsQ (symP wt t A B C E i)) W g' (wt+1) (wt+1)from⟨A,B,C,E,g,cap,by rw[hY,hZ,iL,mA],HL.1,h1,h2⟩));have oQ:=Kh (show QRow (λi=>IsQ (symP wt t A B C E i)) nA g L L from by unfold symP;rw[gL.1];exact J);have I:=Kh (bk cG cT);have oA:=bt cC cT;have oH:=Kh (show gr<g/\w.heap.size<=g from⟨nT cG.1.lt hg,nS cC.1.size hg⟩);have z0:=I.1.at_ 0 rfl;have z1:=I.1.at_ 1 rfl;have z2:=I.1.at_ 2 rfl;have z3:=I.1.at_ 3 rfl;have z4:=I.1.at_ 4 rfl;have f0:=I.1.free_ 0;have f1:=I.1.free_ 1;have f2:=I.1.free_ 2;have f3:=I.1.free_ 3;have f4:=I.1.free_ 4;rw[hY,hZ,iL,mA];clear pQ cT hg J gN cG cC g0 g1 g2 g3 hY hZ iL mA;go_wp2;have XS:=((((I.1.set_ 0 (.slice (some ⟨g,0,none⟩) L cap)).set_ 1 (.int .i64 i0)).set_ 2 (.int .i64 i1)).set_ 3 (.int .i64 i2)).set_ 4 (.int .i64 i3);have e0:=XS.at_ 0 rfl;have e1:=XS.at_ 1 rfl;have e2:=XS.at_ 2 rfl;have e3:=XS.at_ 3 rfl;have e4:=XS.at_ 4 rfl;have qW:Stk NotU32 nA gr:=Stk.of I.1 (by intro v hv;simp at hv;rcases hv with rfl|rfl|rfl|rfl|rfl <;> exact λ_ h=>by cases h);have qV:=oQ.1.i32 (λ_=>IsQ.solid _) (I32.path qW (some ⟨g,0,none⟩) L cap i0 i1 i2 i3) (Kj nA gr _ _ _ _ _) (by have:=oH.1.1;omega);refine bodyPost_ret (by simp[results,results61,go_sem,e0,e1,e2,e3,e4];try rfl) rfl ?_;exact⟨by have h:=qJ.1 _ g cap oH.1.2 (by rw[gL.1];exact qV);rw[gL.1]at h ⊢;exact h,(((((oA.1.setCell (p:=⟨gr,0,none⟩) cD.1 _).setCell (p:=⟨gr,1,none⟩) cD.1 _).setCell (p:=⟨gr,2,none⟩) cD.1 _).setCell (p:=⟨gr,3,none⟩) cD.1 _).setCell (p:=⟨gr,4,none⟩) cD.1 _)⟩
end
section
open Eli
section
variable {n wt:Nat} {D:Int} {Φ:(Nat->Rat)->Int×Int->Int×Int->Rat}
theorem U9 {k:Int} (J:Pl.check n k D=0):Pl.kroP D 1=1:=by
 obtain⟨⟨h,a2⟩,_,⟨U,V⟩,Y,Z⟩:=Pl.check_ok J;obtain⟨O,I⟩:=Pl.kro_mul (N:=n) (D:=D) (a:=1) (b:=1) (c:=1) (by omega) U V Y Z (by omega) (by omega) (by omega) (by omega) (by omega) (by omega) (by simp) (by simp) (by simp) (by simp);rcases I with I|I
 ·exact I
 ·rw[I]at O;exact absurd O (by decide)
theorem Vc (O:Pl.check n ((wt:Int)+2) D=0) (bC:PF n wt D Φ) (t:Nat) {A B C E A' B' I J:Int} (h:A*E - B*C=1) (h':A'*J - B'*I=1) (hC:I % n=C % n) (hE:J % n=E % n):
  Φ (symP wt t A' B' I J) (img A' B' I J (0,1)) (img A' B' I J (1,0))=Φ (symP wt t A B C E) (img A B C E (0,1)) (img A B C E (1,0)):=by
 obtain⟨⟨a1,a2⟩,_⟩:=Pl.check_ok O;obtain⟨a,ha⟩:∃a,a=A'*E - B'*C:=⟨_,rfl⟩
 obtain⟨b,hb⟩:∃b,b=B'*A - A'*B:=⟨_,rfl⟩
 obtain⟨c,Y⟩:∃c,c=I*E - J*C:=⟨_,rfl⟩
 obtain⟨d,Z⟩:∃d,d=J*A - I*B:=⟨_,rfl⟩
 have U:a*d - b*c=1:=by
  have e:a*d - b*c=(A*E - B*C)*(A'*J - B'*I):=by rw[ha,hb,Y,Z];grind
  rw[e,h,h'];rfl
 have d1:(n:Int)∣I - C:=Int.dvd_of_emod_eq_zero (Int.emod_eq_emod_iff_emod_sub_eq_zero.1 hC);have d2:(n:Int)∣J - E:=Int.dvd_of_emod_eq_zero (Int.emod_eq_emod_iff_emod_sub_eq_zero.1 hE)
 have V:(n:Int)∣c:=by
  have e:c=(I - C)*E - (J - E)*C:=by rw[Y];grind
  rw[e];exact Int.dvd_sub (Int.dvd_trans d1 (Int.dvd_mul_right _ _)) (Int.dvd_trans d2 (Int.dvd_mul_right _ _))
 have bB:((1:Nat):Int) % n=d % n:=by
  have e:d - 1=(J - E)*A - (I - C)*B:=by rw[Z,<-h];grind
  have h1:(n:Int)∣d - 1:=by
   rw[e];exact Int.dvd_sub (Int.dvd_trans d2 (Int.dvd_mul_right _ _)) (Int.dvd_trans d1 (Int.dvd_mul_right _ _))
  exact(Int.emod_eq_emod_iff_emod_sub_eq_zero.2 (Int.emod_eq_zero_of_dvd h1)).symm
 have hm:=bC.move (symP wt t A B C E) a b c d 1 (img A B C E (0,1)) (img A B C E (1,0)) ⟨U,V⟩ (nR 1) (by omega) (by simp[pun]) bB (Ay (by omega) Cu.zero) (Ay (by omega) Cu.inf)
 have m1:a*A+b*C=A':=by
  have e:a*A+b*C=A'*(A*E - B*C):=by rw[ha,hb];grind
  rw[e,h,Int.mul_one]
 have m2:a*B+b*E=B':=by
  have e:a*B+b*E=B'*(A*E - B*C):=by rw[ha,hb];grind
  rw[e,h,Int.mul_one]
 have m3:c*A+d*C=I:=by
  have e:c*A+d*C=I*(A*E - B*C):=by rw[Y,Z];grind
  rw[e,h,Int.mul_one]
 have m4:c*B+d*E=J:=by
  have e:c*B+d*E=J*(A*E - B*C):=by rw[Y,Z];grind
  rw[e,h,Int.mul_one]
 have hs:subst (symP wt t A B C E) wt d (-b) (-c) a (wt+1)=symP wt t A' B' I J:=by
  unfold symP;rw[I8];have f1:E*d+-B * -c=J:=by rw[<-m4];grind
  have f2:E * -b+-B*a=-B':=by rw[<-m2];grind
  have f3:-C*d+A * -c=-I:=by rw[<-m3];grind
  have f4:-C * -b+A*a=A':=by rw[<-m1];grind
  rw[f1,f2,f3,f4]
 rw[hs,Fb (by omega) (by omega) Cu.zero,Fb (by omega) (by omega) Cu.inf,m1,m2,m3,m4,U9 O]at hm;rw[hm];grind
theorem Wo (J:Pl.check n ((wt:Int)+2) D=0) (O:PF n wt D Φ) {γ:Nat->M4} (U:Dj n γ) {j:Nat} (h:j % (pts n (n*n)).length<(pts n (n*n)).length) {A B C E:Int} (I:LiftOf n (j % (pts n (n*n)).length) A B C E):
  Φ (symP wt (j / (pts n (n*n)).length) A B C E) (img A B C E (0,1)) (img A B C E (1,0))=Mg wt (pts n (n*n)).length γ Φ j:=by
 obtain⟨V,Y,Z⟩:=U _ h;exact Vc J O _ V I.det (by rw[I.c,Y]) (by rw[I.d,Z])
end
theorem Py {n:Nat} (Y:0<n):∃γ,Dj n γ:=by
 have O:∀p,p<(pts n (n*n)).length->∃g:M4,g.1*g.2.2.2 - g.2.1*g.2.2.1=1/\g.2.2.1 % n=(((pts n (n*n)).getD p 0 / n:Nat):Int) % n/\g.2.2.2 % n=(((pts n (n*n)).getD p 0 % n:Nat):Int) % n:=by
  intro p I;have Z:=Ax I;have J:=Jz (I4 Z).1;by_cases hu:(pts n (n*n)).getD p 0 / n=0
  ·refine⟨(1,0,0,1),by decide,by rw[hu];rfl,?_⟩
   rw[Tu Y I hu]
   push_cast
   rw[Int.emod_emod_of_dvd _ (Int.dvd_refl _)]
  ·obtain⟨U,hU⟩:∃U,(pts n (n*n)).getD p 0 / n=U:=⟨_,rfl⟩
   obtain⟨V,hV⟩:∃V,(pts n (n*n)).getD p 0 % n=V:=⟨_,rfl⟩
   rw[hU,hV]at J;rw[hU]at hu;rw[hU,hV];obtain⟨K,_,hg⟩:=Tb (show 0<U by omega) J;obtain⟨r,_,q,hq⟩:=Yp (k:=(U:Int)) (d:=((V+K*n:Nat):Int)) (m:=U) (by omega) (by omega) (by rw[Int.gcd_natCast_natCast,Nat.gcd_comm];exact hg);refine⟨((r:Int),q,(U:Int),((V+K*n:Nat):Int)),by show(r:Int)*((V+K*n:Nat):Int) - q*U=1;rw[Int.mul_comm q];omega,rfl,?_⟩;show((V+K*n:Nat):Int) % n=(V:Int) % n
   push_cast
   rw[Int.add_mul_emod_self_right]
 refine⟨λp=>if I:p<(pts n (n*n)).length then Classical.choose (O p I)else(1,0,0,1),λp I=>?_⟩;dsimp only;rw[dif_pos I];exact Classical.choose_spec (O p I)
end
end Go.Proofs.YtenlbhlllgppmaaGreatDoor
