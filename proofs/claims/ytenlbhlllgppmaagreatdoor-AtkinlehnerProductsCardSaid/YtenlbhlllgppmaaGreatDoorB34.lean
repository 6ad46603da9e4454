/- Atkin-Lehner matrices: they normalize Gamma0(n); the class of the image under a product. No program in sight. -/
import Derived.Test.YtenlbhlllgppmaaGreatDoorB33
set_option linter.unusedSimpArgs false
set_option maxRecDepth 100000
set_option maxHeartbeats 8000000
namespace Go.Proofs.YtenlbhlllgppmaaGreatDoor
section
open Eli
theorem N9:∀s,s<121->1<=s->Pl.kroP 1 s=1:=by decide +kernel
structure ALm (n q:Nat) (A B C E:Int):Prop where
 hq:0<q
 hn:0<n / q
 dv:n=q*(n / q)
 c:C=n
 e:E=q
 det:A*E - B*C=q
 bA:0<=A/\A<=n
 bB:-1<=B/\B<=q
 x:∃x:Int,A=q*x/\0<=x/\x<(n / q:Nat)
theorem ALm.one {n q:Nat} {A B C E:Int} (h:ALm n q A B C E):∃x:Int,A=q*x/\q*x - B*(n / q:Nat)=1:=by
 obtain⟨x,J,_,_⟩:=h.x;refine⟨x,J,?_⟩;have I:=h.det;have O:(n:Int)=q*(n / q:Nat):=by have:=congrArg (λk:Nat=>(k:Int)) h.dv;simpa using this
 rw[h.c,h.e,J,O]at I;have U:(q:Int)*(q*x - B*(n / q:Nat))=q*1:=by rw[Int.mul_one,<-I];grind
 exact Int.eq_of_mul_eq_mul_left (by have:=h.hq;omega) U
theorem ALm.uniq {n q:Nat} {A B C E A' B' U V:Int} (h:ALm n q A B C E) (I:ALm n q A' B' U V):A=A'/\B=B'/\C=U/\E=V:=by
 obtain⟨x,hx,Y⟩:=h.one;obtain⟨y,hy,Z⟩:=I.one;obtain⟨x',J,x0,x1⟩:=h.x;obtain⟨y',O,y0,y1⟩:=I.x;have hq:=h.hq;obtain rfl:x=x':=Int.eq_of_mul_eq_mul_left (show(q:Int)≠0 by omega) (hx.symm.trans J);obtain rfl:y=y':=Int.eq_of_mul_eq_mul_left (show(q:Int)≠0 by omega) (hy.symm.trans O);obtain⟨M,hM⟩:∃M:Int,((n / q:Nat):Int)=M:=⟨_,rfl⟩
 rw[hM]at Y Z x1 y1;have cC:0<M:=by have:=h.hn;omega
 have h3:x - y=M*(B*(y) - B'*x):=by
  have f1:x=x*((q:Int)*y - B'*M):=by rw[Z,Int.mul_one]
  have f2:y=y*((q:Int)*x - B*M):=by rw[Y,Int.mul_one]
  grind
 have h4:M∣x - y:=⟨_,h3⟩
 have h5:x=y:=by
  obtain⟨k,hk⟩:=h4;have h6:-M<M*k/\M*k<M:=by omega
  have h7:k=0:=by
   rcases Int.lt_trichotomy k 0 with h|h|h
   ·have:M*k<=M*(-1):=Int.mul_le_mul_of_nonneg_left (by omega) (by omega)
    omega
   ·exact h
   ·have:M*1<=M*k:=Int.mul_le_mul_of_nonneg_left (by omega) (by omega)
    omega
  rw[h7,Int.mul_zero]at hk;omega
 subst h5;have h6:B=B':=Int.eq_of_mul_eq_mul_right (show M≠0 by omega) (by omega);exact⟨by rw[hx,hy],h6,by rw[h.c,I.c],by rw[h.e,I.e]⟩
theorem Tg {n q:Nat} {A B C E k:Int} (V:Pl.check n k 1=0) (h:ALm n q A B C E):jF n n 1 A B C E:=by
 obtain⟨⟨a1,a2⟩,_⟩:=Pl.check_ok V;obtain⟨x,U,Y⟩:=h.one;intro a b c d s hg h1 h2 h3 h4;obtain⟨c1,I⟩:=hg.low;obtain⟨M,hM⟩:∃M:Int,((n / q:Nat):Int)=M:=⟨_,rfl⟩
 have hn:(n:Int)=q*M:=by rw[<-hM];have:=congrArg (λk:Nat=>(k:Int)) h.dv;simpa using this
 rw[hM]at Y;have bB:=hg.det;have J:=h.c;have O:=h.e;obtain⟨Q,hQ⟩:∃Q:Int,(q:Int)=Q:=⟨_,rfl⟩
 rw[hQ]at U Y O hn;rw[hn]at J I
 have hG:G0 n (A*a+B*c - (A*b+B*d)*M) (-(x*a*B)+Q*x*x*b+x*B*d - B*B*(M*c1)) (C*a+E*c - (C*b+E*d)*M) (-(M*a*B) - c*B+M*b*A+d*A):=by
  refine⟨?_,?_⟩
  ·subst U J O I
   grind
  ·refine⟨a+Q*c1 - M*b - d,?_⟩
   rw[hn];subst U J O I;grind
 obtain⟨s',Z,g2,g3,g4,_⟩:=T6 (by omega) hG;refine⟨_,_,_,_,s',hG,Z,g2,g3,g4,by rw[N9 s (by omega) h1,N9 s' (by omega) Z],?_,?_,?_,?_⟩
 all_goals
  subst U J O I
  grind
theorem S5 {n wt:Nat} {D:Int} {x:Nat->Rat} {A B C E a b c e:Int} (hA:A*E - B*C≠0) (I:a*e - b*c≠0) (P:Nat->Rat) {u v:Int×Int} (Y:Cu u) (Z:Cu v):
  clG n wt D x (A*a+B*c) (A*b+B*e) (C*a+E*c) (C*b+E*e) P u v=clG n wt D x A B C E (subst P wt e (-b) (-c) a (wt+1)) (img a b c e u) (img a b c e v):=by
 unfold clG;rw[I8,Fb I hA Y,Fb I hA Z];have J:e*E+-b * -C=C*b+E*e:=by grind
 have O:e * -B+-b*A=-(A*b+B*e):=by grind
 have U:-c*E+a * -C=-(C*a+E*c):=by grind
 have V:-c * -B+a*A=A*a+B*c:=by grind
 rw[J,O,U,V]
theorem Pm {n wt:Nat} {x:Nat->Rat} {A B C E a b c e:Int} (I:Pl.check n ((wt:Int)+2) 1=0) (hR:RelZ n wt 1 x) (hA:A*E - B*C≠0) (hg:G0 n a b c e) (P:Nat->Rat) {u v:Int×Int} (O:Cu u) (U:Cu v):
  clG n wt 1 x (a*A+b*C) (a*B+b*E) (c*A+e*C) (c*B+e*E) P u v=clG n wt 1 x A B C E P u v:=by
 obtain⟨⟨a1,a2⟩,_⟩:=Pl.check_ok I;obtain⟨s,J,V,Y,Z,_⟩:=T6 (by omega) hg;rw[S5 (by rw[hg.det];decide) hA P O U];have h:=Qf (Q:=subst P wt E (-B) (-C) A (wt+1)) I hR hg J V Y Z (Ay hA O) (Ay hA U);unfold clG;rw[h,N9 s (by omega) J];grind
end
section
open Go.RowKit Eli Tryz
def Ke (n:Nat) (q:Int):Prop:=∃m:Nat,q=m/\0<m/\m∣n/\Nat.gcd m (n / m)=1
def jE (n:Nat) (q:Int) (e:Ending):Prop:=
 (¬Ke n q/\∃er:Int,er≠0/\e=.returned (.tuple #[.agg #[.int .i64 0,.int .i64 0,.int .i64 0,.int .i64 0],.int .i64 er])) ∨
 ∃(m:Nat) (A B C E:Int),q=m/\e=.returned (.tuple #[.agg #[.int .i64 A,.int .i64 B,.int .i64 C,.int .i64 E],.int .i64 0])/\ALm n m A B C E
theorem Ux (n:Nat) (w:World) (I:0<n) (hn:n<=120):
  Calls prog 73 #[.int .i64 n] w λe w'=>e=.returned (.int .i64 0)/\w'=w:=by
 have J:¬(n:Int)<1:=by omega
 have O:¬(120:Int)<n:=by omega
 clear I hn;go_enter func73,ntmps73
 go_wp2;go_ret;exact⟨rfl,rfl⟩
theorem Ly (n:Nat) (q:Int) (w:World) (h0:0<n) (hn:n<=120) (hJ:-9223372036854775808<=q) (hL:q<=9223372036854775807):
  Calls prog 32 #[.int .i64 n,.int .i64 q] w λe w'=>jE n q e/\Below w.heap.size w w':=by
 have gL:=Kh (λW=>Ux n W h0 hn);have HN:=Kh (And.intro h0 hn);have oB:=Kh (And.intro hJ hL);clear h0 hn hJ hL;go_enter func32,ntmps32
 go_wp2_with fail
 obtain⟨w0,hQ,X0,hH⟩:=bx1 w #[.int .i64 0,.int .i64 0,.int .i64 0,.int .i64 0] 63;rw[hQ];obtain⟨Y,dE⟩:∃x,w.heap.size=x:=⟨_,rfl⟩
 have J:=Kh (show w.heap.size<=Y by omega);rw[dE]at X0;try rw[dE]
 have I:=Kh X0;have O:=Kh hH;clear hQ X0 hH dE;refine(gL.1 w0).mono ?_;rintro e w' ⟨rfl,hO⟩;obtain rfl:w0=w':=hO.symm;clear hO gL;have r0:=I.1.at_ 0 rfl;have r1:=I.1.at_ 1 rfl;have r2:=I.1.at_ 2 rfl;have r3:=I.1.at_ 3 rfl;have f0:=I.1.free_ 0;have f1:=I.1.free_ 1;have f2:=I.1.free_ 2;have f3:=I.1.free_ 3;by_cases h1:q<1
 case pos=>
  have bB:=Kh (show ¬Ke n q by rintro⟨m,rfl,Z,_⟩;omega);go_wp2;have U:=((((I.1.set_ 0 (.int .i64 0)).set_ 1 (.int .i64 0)).set_ 2 (.int .i64 0)).set_ 3 (.int .i64 0))
  have e0:=U.at_ 0 rfl;have e1:=U.at_ 1 rfl;have e2:=U.at_ 2 rfl;have e3:=U.at_ 3 rfl;try simp only[Exit.inBlock,Exit.then]
  refine bodyPost_ret (by simp[results,results32,go_sem,e0,e1,e2,e3];try rfl) rfl ?_;exact⟨.inl ⟨bB.1,2,by decide,rfl⟩,((((O.1.setCell (p:=⟨Y,0,none⟩) J.1 _).setCell (p:=⟨Y,1,none⟩) J.1 _).setCell (p:=⟨Y,2,none⟩) J.1 _).setCell (p:=⟨Y,3,none⟩) J.1 _)⟩
 obtain⟨m,Z⟩:∃m:Nat,q=m:=⟨q.toNat,by omega⟩
 have aX:0<m:=by omega
 obtain⟨r,hr⟩:∃r,n % m=r:=⟨_,rfl⟩
 have hn:=HN.1;have hN:r<=120:=by rw[<-hr];exact nS (Nat.mod_le _ _) hn.2
 have m1:(n:Int).tmod q=(r:Int):=by rw[Z,Int.tmod_eq_emod_of_nonneg (by omega),<-hr];rfl
 have nD:IntKind.i64.wrap (r:Int)=(r:Int):=IntWalk.i64_in _ (by omega);have oH:q≠0:=by omega
 have oC:¬q<1:=h1;by_cases hr0:r=0
 case neg=>
  have h3:((r:Int) != 0)=true:=by simp;omega
  have bB:=Kh (show ¬Ke n q by
   rintro⟨k,hk,_,hd,_⟩;obtain rfl:m=k:=by omega
   exact hr0 (by rw[<-hr];exact Nat.mod_eq_zero_of_dvd hd))
  clear hr hN hr0 Z aX hn;go_wp2;have U:=((((I.1.set_ 0 (.int .i64 0)).set_ 1 (.int .i64 0)).set_ 2 (.int .i64 0)).set_ 3 (.int .i64 0))
  have e0:=U.at_ 0 rfl;have e1:=U.at_ 1 rfl;have e2:=U.at_ 2 rfl;have e3:=U.at_ 3 rfl;try simp only[Exit.inBlock,Exit.then]
  refine bodyPost_ret (by simp[results,results32,go_sem,e0,e1,e2,e3];try rfl) rfl ?_;exact⟨.inl ⟨bB.1,2,by decide,rfl⟩,((((O.1.setCell (p:=⟨Y,0,none⟩) J.1 _).setCell (p:=⟨Y,1,none⟩) J.1 _).setCell (p:=⟨Y,2,none⟩) J.1 _).setCell (p:=⟨Y,3,none⟩) J.1 _)⟩
 subst hr0;have nW:(n:Int).tmod q=0:=m1;have bC:m∣n:=Nat.dvd_of_mod_eq_zero hr;obtain⟨M,hM⟩:∃M,n / m=M:=⟨_,rfl⟩
 have V:n=m*M:=by rw[<-hM];exact(Nat.mul_div_cancel' bC).symm
 have bA:0<M:=by
  rcases Nat.eq_zero_or_pos M with h|h
  ·rw[h,Nat.mul_zero]at V;omega
  ·exact h
 have cA:M<=120:=by have h:1*M<=m*M:=Nat.mul_le_mul_right _ aX;omega
 have cB:m<=120:=by have h:m*1<=m*M:=Nat.mul_le_mul_left _ bA;omega
 have m2:(n:Int).tdiv q=(M:Int):=by rw[Z,Int.tdiv_eq_ediv_of_nonneg (by omega),<-hM];rfl
 have m3:IntKind.i64.wrap (M:Int)=(M:Int):=IntWalk.i64_in _ (by omega);have bE:=Kh (And.intro bC (And.intro hM (And.intro V (And.intro bA (And.intro cA (And.intro cB aX))))));have HM:=Kh Z;have gA:=Kh (λW=>Em q (M:Int) W (by omega) (by omega) (by omega) (by omega));clear hr hN m1 nD bC hM V bA cA cB aX Z hn r0 r1 r2 r3 f0 f1 f2 f3;go_wp2_with fail
 refine(gA.1 w0).mono ?_;rintro e w1 ⟨rfl,nd,hR⟩;have cX:Below w0.heap.size w0 w1:=by rw[hR];exact Aa (Below.refl _ _) _
 have gN:=Kh (bk I cX);have dY:=bt O cX;clear hR cX I O gA nW;have I:=gN;have O:=dY;clear gN dY;obtain⟨g,hg⟩:∃g,Int.gcd q (M:Int)=g:=⟨_,rfl⟩
 rw[hg];have r0:=I.1.at_ 0 rfl;have r1:=I.1.at_ 1 rfl;have r2:=I.1.at_ 2 rfl;have r3:=I.1.at_ 3 rfl;have f0:=I.1.free_ 0;have f1:=I.1.free_ 1;have f2:=I.1.free_ 2;have f3:=I.1.free_ 3;by_cases hg1:g=1
 case neg=>
  have h3:((g:Int) != 1)=true:=by simp;omega
  have bB:=Kh (show ¬Ke n q by
   rintro⟨k,hk,_,_,hI⟩;have Z:=HM.1;obtain rfl:m=k:=by omega
   rw[bE.1.2.1]at hI;rw[Z,Int.gcd_natCast_natCast,hI]at hg;exact hg1 hg.symm)
  clear hg hg1;go_wp2;have U:=((((I.1.set_ 0 (.int .i64 0)).set_ 1 (.int .i64 0)).set_ 2 (.int .i64 0)).set_ 3 (.int .i64 0))
  have e0:=U.at_ 0 rfl;have e1:=U.at_ 1 rfl;have e2:=U.at_ 2 rfl;have e3:=U.at_ 3 rfl;try simp only[Exit.inBlock,Exit.then]
  refine bodyPost_ret (by simp[results,results32,go_sem,e0,e1,e2,e3];try rfl) rfl ?_;exact⟨.inl ⟨bB.1,9,by decide,rfl⟩,((((O.1.setCell (p:=⟨Y,0,none⟩) J.1 _).setCell (p:=⟨Y,1,none⟩) J.1 _).setCell (p:=⟨Y,2,none⟩) J.1 _).setCell (p:=⟨Y,3,none⟩) J.1 _)⟩
 subst hg1;have gF:=Kh (λW=>Ir q M W bE.1.2.2.2.1 (by have:=bE.1.2.2.2.2.1;omega) hg);clear hg r0 r1 r2 r3 f0 f1 f2 f3;go_wp2_with fail
 refine(gF.1 w1).mono ?_;rintro e w2 ⟨⟨u,rfl,nC,hu2⟩,dC⟩;have gP:=Kh (bk I dC);have eP:=bt O dC;clear dC I O gF;have I:=gP;have O:=eP;clear gP eP;obtain⟨bC,hM,V,bA,cA,cB,aX⟩:=bE.1;have Z:=HM.1;obtain⟨B,hB⟩:=hu2;obtain⟨P,hP⟩:∃P:Int,q*(u:Int)=P:=⟨_,rfl⟩
 have cT:P - 1=(M:Int)*B:=by rw[<-hP,<-hB,Int.mul_comm]
 have hD:0<=P:=by rw[<-hP,Z];exact Int.mul_nonneg (by omega) (by omega)
 have hG:P<=n:=by
  rw[<-hP,Z,V]
  push_cast
  exact Int.mul_le_mul_of_nonneg_left (by omega) (by omega)
 have gS:-1<=B:=by
  rcases Int.lt_or_le B (-1)with h|h
  ·have h2:(M:Int)*B<=M*(-2):=Int.mul_le_mul_of_nonneg_left (by omega) (by omega)
   omega
  ·exact h
 have gU:B<=m:=by
  rcases Int.lt_or_le (m:Int) B with h|h
  ·have h2:(M:Int)*(m:Int)<=M*B:=Int.mul_le_mul_of_nonneg_left (by omega) (by omega)
   have h3:(n:Int)=M*m:=by rw[V];push_cast;exact Int.mul_comm _ _
   omega
  ·exact h
 have mA:=Kh (show ALm n m P B n q from by
  have nA:(n:Int)=m*M:=by rw[V];push_cast;rfl
  refine⟨aX,by rw[hM];exact bA,by rw[hM];exact V,rfl,Z,?_,⟨hD,hG⟩,⟨gS,gU⟩,⟨u,by rw[<-hP,Z],by omega,by rw[hM];omega⟩⟩;rw[nA,Z];have h1:B*((m:Int)*M)=m*(P - 1):=by rw[cT];grind
  rw[h1];grind)
 have nB:=HN.1.2;have oI:IntKind.i64.wrap P=P:=IntWalk.i64_in _ (by omega);have oJ:IntKind.i64.wrap (P - 1)=P - 1:=IntWalk.i64_in _ (by omega);have d1:(P - 1).tdiv (M:Int)=B:=by rw[cT];exact Int.mul_tdiv_cancel_left B (by omega)
 have oK:IntKind.i64.wrap B=B:=IntWalk.i64_in _ (by omega);have oE:(M:Int)≠0:=by omega
 clear nB bC hM V bA cA cB aX Z hB cT hD hG gS gU nC;have r0:=I.1.at_ 0 rfl;have r1:=I.1.at_ 1 rfl;have r2:=I.1.at_ 2 rfl;have r3:=I.1.at_ 3 rfl;have f0:=I.1.free_ 0;have f1:=I.1.free_ 1;have f2:=I.1.free_ 2;have f3:=I.1.free_ 3;go_wp2;have U:=((((I.1.set_ 0 (.int .i64 P)).set_ 1 (.int .i64 B)).set_ 2 (.int .i64 (n:Int))).set_ 3 (.int .i64 q))
 have e0:=U.at_ 0 rfl;have e1:=U.at_ 1 rfl;have e2:=U.at_ 2 rfl;have e3:=U.at_ 3 rfl;try simp only[Exit.inBlock,Exit.then]
 refine bodyPost_ret (by simp[results,results32,go_sem,e0,e1,e2,e3];try rfl) rfl ?_;exact⟨.inr ⟨m,P,B,n,q,HM.1,rfl,mA.1⟩,((((O.1.setCell (p:=⟨Y,0,none⟩) J.1 _).setCell (p:=⟨Y,1,none⟩) J.1 _).setCell (p:=⟨Y,2,none⟩) J.1 _).setCell (p:=⟨Y,3,none⟩) J.1 _)⟩
noncomputable def wM (n wt:Nat) (D:Int) (F:List Nat) (X:Nat->Nat->Rat) (γ:Nat->M4) (A B C E:Int) (i k:Nat):Rat:=
 Mg wt (pts n (n*n)).length γ (clG n wt D (λj=>X j (F.getD k 0)) A B C E) (F.getD i 0)
theorem Qa {x y:Int} {A B:Nat} (h:x.natAbs<=A) (I:y.natAbs<=B):(x*y).natAbs<=A*B:=by
 rw[Int.natAbs_mul];exact Nat.mul_le_mul h I
theorem Eu {a b c d:Int} {A B:Nat} (I:a.natAbs<=A) (J:b.natAbs<=B) (O:c.natAbs<=A) (U:d.natAbs<=B):(a*b+c*d).natAbs<=2*(A*B):=by
 have V:=Qa I J;have Y:=Qa O U;omega
theorem Wn {A B C E:Int} {K H:Nat} {x:Int×Int} (I:A*E - B*C≠0) (bA:A.natAbs<=K) (bB:B.natAbs<=K) (bC:C.natAbs<=K) (bE:E.natAbs<=K) (U:At x.1 x.2=0) (J:x.1.natAbs<=H) (O:x.2.natAbs<=H) (hK:2*(K*H)<=1073741824):
  Ec A B C E x.1 x.2=(img A B C E x,0)/\At (img A B C E x).1 (img A B C E x).2=0/\(img A B C E x).1.natAbs<=1073741824/\(img A B C E x).2.natAbs<=1073741824:=by
 obtain⟨p,r⟩:=x;have V:=Eu bA J bB O;have Y:=Eu bC J bE O;dsimp only at J O V Y U ⊢;have h:=Ni (a:=A) (b:=B) (c:=C) (d:=E) (p:=p) (q:=r) I U (by omega) (by omega);exact⟨h.1,h.2.1,by have:=h.2.2.1;omega,by have:=h.2.2.2;omega⟩
theorem V5 {wt e:Nat} {A B C E a b c d:Int} (hw:wt<=22) (bA:-20000<=A/\A<=20000) (bB:-20000<=B/\B<=20000) (bC:-20000<=C/\C<=20000) (bE:-20000<=E/\E<=20000) (I:a.natAbs<=120) (O:b.natAbs<=120) (U:c.natAbs<=120) (J:d.natAbs<=120) (j:Nat):hq (subst (symP wt e A B C E) wt d (-b) (-c) a (wt+1) j)<=4000:=by
 unfold symP;rw[I8];have V:=Eu (A:=20000) (B:=120) (a:=E) (b:=d) (c:=-B) (d:=-c) (by omega) J (by omega) (by omega);have Y:=Eu (A:=20000) (B:=120) (a:=E) (b:=-b) (c:=-B) (d:=a) (by omega) (by omega) (by omega) I;have Z:=Eu (A:=20000) (B:=120) (a:=-C) (b:=d) (c:=A) (d:=-c) (by omega) J (by omega) (by omega);have h:=Eu (A:=20000) (B:=120) (a:=-C) (b:=-b) (c:=A) (d:=a) (by omega) (by omega) (by omega) I;exact Dz (K:=4) (λi _=>nS (N6 e i) (by decide)) (F8 (by omega) (by omega)) (F8 (by omega) (by omega)) (F8 (by omega) (by omega)) (F8 (by omega) (by omega)) (by omega) (by omega)
theorem ALm.abs {n q:Nat} {A B C E:Int} (h:ALm n q A B C E) (hn:n<=120):A.natAbs<=120/\B.natAbs<=120/\C.natAbs<=120/\E.natAbs<=120:=by
 have I:=h.bA;have J:=h.bB;have O:=h.c;have U:=h.e;have V:q*1<=q*(n / q):=Nat.mul_le_mul_left _ h.hn;have Y:=h.dv;omega
theorem ALm.det0 {n q:Nat} {A B C E:Int} (h:ALm n q A B C E):A*E - B*C≠0:=by
 have I:=h.det;have J:=h.hq;omega
theorem fI {n q wt:Nat} {F:List Nat} {X:Nat->Nat->Rat} {γ:Nat->M4} {i k:Nat} {a b c d:Int} (I:Pl.check n ((wt:Int)+2) 1=0) (Z:∀f,f∈F->RelZ n wt 1 (λj=>X j f)) (U:Dj n γ) (J:ALm n q a b c d) (h:k<F.length) (Y:0<(pts n (n*n)).length) {A B C E:Int} (V:LiftOf n (F.getD i 0 % (pts n (n*n)).length) A B C E):
  Pot (Ah n wt 1 (λj=>X j (F.getD k 0)) (subst (symP wt (F.getD i 0 / (pts n (n*n)).length) A B C E) wt d (-b) (-c) a (wt+1))) (img a b c d (img A B C E (1,0))) - Pot (Ah n wt 1 (λj=>X j (F.getD k 0)) (subst (symP wt (F.getD i 0 / (pts n (n*n)).length) A B C E) wt d (-b) (-c) a (wt+1))) (img a b c d (img A B C E (0,1)))=wM n wt 1 F X γ a b c d i k:=by
 have O:=PF.of_norm (A:=a) (B:=b) (C:=c) (E:=d) I (Z _ (Ax h)) J.det0 (Tg I J);exact Wo I O U (Nat.mod_lt _ Y) V
theorem RowsX.nil (F:Nat->Nat->Rat) (C:Nat) (w:World) (B:Nat):RowsX F 0 C w B (.slice none 0 0):=⟨λ_=>0,OwnK.nil _ _ _ _ _,λ_ _ I=>absurd I (Nat.not_lt_zero _)⟩
def WAny (n wt R:Nat) (D q:Int) (F:List Nat) (X:Nat->Nat->Rat) (γ:Nat->M4) (w':World) (a b:Int) (v:Option Addr) (s c:Nat) (er:Int):Prop:=
 (D=1->Ke n q->er=0)/\(er=0->∃(m:Nat) (A B C E:Int),D=1/\q=m/\ALm n m A B C E/\a=R/\b=R/\s=R*R/\QL (λj=>IsQ (wM n wt 1 F X γ A B C E (j / R) (j % R))) w' (.slice v (R*R) c) (R*R)/\∀i k,i<R->k<R->hq (wM n wt 1 F X γ A B C E i k)<=430000000)
theorem Nn {M n wt:Nat} {D:Int} {F:List Nat} {C:Nat} {X:Nat->Nat->Rat} {γ:Nat->M4} (q:Int) (w:World) (hT:Tab w) (hm:ModR w M n wt D F C X) (mA:∀f,f∈F->f<C) (tQ:Dj n γ) (tA:-9223372036854775808<=q) (tB:q<=9223372036854775807):
  Calls prog 41 #[.pointer (some ⟨M,0,none⟩),.int .i64 q] w λe w'=>(∃a b v s c er,e=.returned (.tuple #[.agg #[.int .i64 a,.int .i64 b,.slice v s c],.int .i64 er])/\WAny n wt F.length D q F X γ w' a b v s c er)/\Below w.heap.size w w':=by
 have iL:=hm.check;have hO:wt<=22:=by have:=(Pl.check_ok iL).2.1;omega
 have qI:0<n:=by have:=Av iL;omega
 have qJ:n<=120:=by have:=Av iL;omega
 have hN:0<(pts n (n*n)).length∨F.length=0:=by
  rcases Nat.eq_zero_or_pos F.length with h|h
  ·exact .inr h
  ·have h1:=mA _ (Ax h)
   rw[<-hm.cnt,cntF]at h1;rcases Nat.eq_zero_or_pos (pts n (n*n)).length with h2|h2
   ·rw[h2,Nat.mul_zero]at h1;omega
   ·exact .inl h2
 have sE:=Kh (λW (Y:Below w.heap.size w W)=>Nt M W.heap.size n ((wt:Int)+2) D F C X W (hm.keep Y).mod (nR _));have rK:=Kh (λW (Y:Below w.heap.size w W)=>Wr M W.heap.size n ((wt:Int)+2) D F C X W (hm.keep Y).mod);have rO:=Kh (λW (Y:Below w.heap.size w W)=>fR M W.heap.size n ((wt:Int)+2) D F C X W (hm.keep Y).mod (by have:=hm.len;omega));have sA:=Kh (λW (Y:Below w.heap.size w W) i (hi:i<F.length)=>fX M n wt D F C X (F.getD i 0) (F.getD i 0 % (pts n (n*n)).length) (F.getD i 0 / (pts n (n*n)).length) W (hT.below Y) (hm.keep Y) (by have h1:=mA _ (Ax hi);rw[<-hm.cnt,cntF]at h1;exact h1) rfl rfl);have uI:=Kh (λW (Y:Below w.heap.size w W) v f p q p' q' hp hf a1 a2 a3 a4 a5 a6 a7 a8=>Wq (hT.below Y) (hm.keep Y) v f p q p' q' hp hf a1 a2 a3 a4 a5 a6 a7 a8);have rE:=Kh (λW=>Ly n q W qI qJ tA tB);have sF:=Kh (λ(hD:D=1) (m:Nat) a b c d (J:ALm n m a b c d) i k (hk:k<F.length) (h0:0<(pts n (n*n)).length) A B C0 E (hL:LiftOf n (F.getD i 0 % (pts n (n*n)).length) A B C0 E)=>fI (F:=F) (X:=X) (γ:=γ) (i:=i) (k:=k) (hD▸iL) (hD▸hm.rel) tQ J hk h0 hL);have rN:=Kh hm.len;have rY:=Kh (And.intro qI (And.intro qJ hO));clear iL hT hm mA tQ qI qJ hO tA tB;go_enter func41,ntmps41
 go_wp2_with fail
 obtain⟨w0,tJ,X0,sS⟩:=bx1 w #[.int .i64 0,.int .i64 0,.slice none 0 0] 32;rw[tJ];obtain⟨gr,oE⟩:∃x,w.heap.size=x:=⟨_,rfl⟩
 have pB:=Kh oE;rw[oE]at X0;try rw[oE]
 have sG:=Kh X0;have oY:=Kh sS;clear tJ X0 sS oE;refine(sE.1 w0 oY.1).mono ?_;rintro e w1 ⟨rfl,pR⟩;have sH:=Kh (bk sG pR);have rF:=bt oY pR;clear pR sG oY sE;go_upto_region 4 with(fail)
 obtain⟨w2,tK,S2,pS⟩:=bx1 w1 #[.int .i64 n,.int .i64 ((wt:Int)+2),.int .i64 D] 23;rw[tK];obtain⟨gs,qF⟩:∃x,w1.heap.size=x:=⟨_,rfl⟩
 rw[qF]at S2;try rw[qF]
 have cT:=Kh (bk sH pS);have nD:=bt rF pS;have pH:=Kh S2;clear tK S2 pS qF sH rF;have s0:=pH.1.at_ 0 rfl;have s2:=pH.1.at_ 2 rfl;by_cases hD:D=1
 case neg=>
  have wO:(D != 1)=true:=by rw[bne_iff_ne];exact hD
  have uM:=Kh hD;have x0:=cT.1.at_ 0 rfl;have x1:=cT.1.at_ 1 rfl;have x2:=cT.1.at_ 2 rfl;have f0:=cT.1.free_ 0;have f1:=cT.1.free_ 1;have f2:=cT.1.free_ 2;have U:=Kh (A9 (w:=w2) (R:=gr) (v0:=.int .i64 0) (v1:=.int .i64 0) (v2:=.slice none 0 0) (by rw[x0];rfl) (by rw[x1];rfl) (by rw[x2];rfl));have hH:=Kh (((Ad w2 gr 0 (.int .i64 0)).trans (Ad _ gr 1 (.int .i64 0))).trans (Ad _ gr 2 (.slice none 0 0)));clear hD;go_wp2;have e0:=U.1.1;have e1:=U.1.2.1;have e2:=U.1.2.2;try simp only[Exit.inBlock,Exit.then]
  refine bodyPost_ret (by simp[results,results41,go_sem,e0,e1,e2];try rfl) rfl ?_;exact⟨⟨_,_,_,_,_,_,rfl,λh=>absurd h uM.1,λh=>absurd h (by decide)⟩,Ae nD.1 hH.1 nD.1.size (by have:=pB.1;omega)⟩
 subst hD;go_wp2_with fail
 refine(rE.1 w2).mono ?_;rintro e w3 ⟨J,pT⟩;have nZ:=Kh (bk cT pT);have nW:=bt nD pT;clear s0 s2 pT cT nD pH rE;rcases J with⟨sY,er,qB,rfl⟩ |⟨m,A,B,C0,E,oG,rfl,J⟩
 ·have wR:(er != 0)=true:=by rw[bne_iff_ne];exact qB
  have uQ:=Kh sY;have uK:=Kh qB;clear sY qB;go_upto_region 7 with(fail)
  obtain⟨w4,nB,_,gA⟩:=bx1 w3 #[.int .i64 0,.int .i64 0,.int .i64 0,.int .i64 0] 63;rw[nB];have bY:=Kh (bk nZ gA);have hG:=bt nW gA;clear nB gA nZ nW;have x0:=bY.1.at_ 0 rfl;have x1:=bY.1.at_ 1 rfl;have x2:=bY.1.at_ 2 rfl;have f0:=bY.1.free_ 0;have f1:=bY.1.free_ 1;have f2:=bY.1.free_ 2;have U:=Kh (A9 (w:=w4) (R:=gr) (v0:=.int .i64 0) (v1:=.int .i64 0) (v2:=.slice none 0 0) (by rw[x0];rfl) (by rw[x1];rfl) (by rw[x2];rfl));have hH:=Kh (((Ad w4 gr 0 (.int .i64 0)).trans (Ad _ gr 1 (.int .i64 0))).trans (Ad _ gr 2 (.slice none 0 0)));go_wp2;have e0:=U.1.1;have e1:=U.1.2.1;have e2:=U.1.2.2;try simp only[Exit.inBlock,Exit.then]
  refine bodyPost_ret (by simp[results,results41,go_sem,e0,e1,e2];try rfl) rfl ?_;exact⟨⟨_,_,_,_,_,_,rfl,λ_ h=>absurd h uQ.1,λh=>absurd h uK.1⟩,Ae hG.1 hH.1 hG.1.size (by have:=pB.1;omega)⟩
 go_upto_region 7 with(fail)
 obtain⟨w4,nB,G4,gA⟩:=bx1 w3 #[.int .i64 A,.int .i64 B,.int .i64 C0,.int .i64 E] 63;rw[nB];obtain⟨gg,qD⟩:∃x,w3.heap.size=x:=⟨_,rfl⟩
 rw[qD]at G4;try rw[qD]
 have bY:=Kh (bk nZ gA);have hG:=bt nW gA;have rS:=Kh G4;clear nB G4 gA qD nZ nW;obtain⟨bA,bB,bC,bE⟩:=J.abs rY.1.2.1;have oX:=Kh (And.intro oG (And.intro J (And.intro (And.intro bA bB) (And.intro bC bE))));have qP:=λi k hk h0 A1 B1 C1 E1 hL=>sF.1 (by simp) m A B C0 E J i k hk h0 A1 B1 C1 E1 hL
 obtain⟨R,hR⟩:∃R,F.length=R:=⟨_,rfl⟩
 obtain⟨N,pO⟩:∃N,(pts n (n*n)).length=N:=⟨_,rfl⟩
 obtain⟨RM,pQ⟩:∃RM,wM n wt 1 F X γ A B C0 E=RM:=⟨_,rfl⟩
 rw[pO,hR]at hN sA;rw[pO,hR,pQ]at qP;rw[hR]at rK rN;have vV:R<=72:=rN.1;have cG:=Kh hR;have sC:=Kh pQ;have uJ:=Kh qP;have uR:=Kh hN;clear sF oG J bA bB bC bE qP hR pO pQ hN;go_wp2_with fail
 refine(rO.1 w4 hG.1).mono ?_;rintro e w5 ⟨⟨vF,rfl,sZ⟩,oC⟩;have nX:=Kh (show OwnK NotU32 w5 w4.heap.size 3 1 vF R (F.map λn:Nat=>Value.int .i64 (n:Int))from by have h:=sZ;unfold OwnN at h;rw[cG.1]at h;exact h);obtain⟨pF,cF,rfl⟩:=Ba nX.1.1
 have rM:=Kh (show ∀gF,pF=some ⟨gF,0,none⟩->∀k,k<R->w5.cell? ⟨gF,k,none⟩=some (.int .i64 ((F.getD k 0:Nat):Int))from λgF vH k hk=>by
  subst vH;exact An nX.1.1 (by rw[List.getElem?_map,List.getD_eq_getElem?_getD,List.getElem?_eq_getElem (show k<F.length by rw[cG.1];exact hk)];rfl))
 have uS:=Kh (show 0<R->∃gF,pF=some ⟨gF,0,none⟩from λh=>by
  obtain⟨gF,wJ,e,_⟩:=H8 nX.1 h;injection e with e1 e2 e3
  exact⟨gF,e1⟩)
 have rH:=bt hG oC;have sJ:=Kh (bk bY oC);have rT:=Kh (bk rS oC);clear sZ oC hG bY rS rO nX;go_wp2_with fail
 go_loopw [9,38] (λv8 ii wr=>∃i:Nat,i<=R/\ii=.int .i64 i/\RowsX RM i R wr w.heap.size v8/\(∀gF,pF=some ⟨gF,0,none⟩->∀k,k<R->wr.cell? ⟨gF,k,none⟩=some (.int .i64 ((F.getD k 0:Nat):Int)))/\(∀a b,a<i->b<R->hq (RM a b)<=430000000)/\Below w.heap.size w wr/\Blk wr gr 32 #[.int .i64 0,.int .i64 0,.slice none 0 0]/\Blk wr gg 63 #[.int .i64 A,.int .i64 B,.int .i64 C0,.int .i64 E]) (λ_ ii _=>R - (intOf ii).toNat)
 case atStart=>exact⟨0,Nat.zero_le _,rfl,RowsX.nil _ _ _ _,rM.1,λa b h=>absurd h (Nat.not_lt_zero _),rH.1,sJ.1,rT.1⟩
 case round=>
  obtain⟨i,hi,rfl,tD,sV,tH,sT,tO,sX⟩:=hrel;obtain⟨wx,rfl⟩:∃wx:World,wx=wr:=⟨_,rfl⟩
  have hX:=Kh tD;have pA:=Kh sV;have pI:=Kh tH;have dY:=Kh sT;have pK:=Kh tO;have rV:=Kh sX;clear tD sV tH sT tO sX rM rH sJ rT;by_cases hlt:i<R
  ·have wQ:(i:Int)<(R:Int):=by omega
   obtain⟨gF,rfl⟩:=uS.1 (by omega);have c0:=pA.1 gF rfl i hlt;obtain⟨jf,qG⟩:∃j,F.getD i 0=j:=⟨_,rfl⟩
   have rW:=Kh qG;have vD:0<N:=by have:=uR.1;omega
   have qK:=sA.1 wx dY.1 i hlt;rw[qG]at c0 qK;have oL:=Kh qK;clear qG qK;go_wp2_with fail
   refine oL.1.mono ?_;rintro e w6 ⟨⟨A1,B1,C1,E1,g6,hZ,rfl,hL,vG,cC⟩,hI⟩;obtain⟨⟨_,pX,qQ,qR⟩,_,pY,qS,qT⟩:=Qv hL.det hL.bA hL.bB hL.bC hL.bE;have O:=λk hk=>uJ.1 i k hk vD A1 B1 C1 E1 (by rw[rW.1];exact hL)
   rw[rW.1]at O;obtain⟨x,hx⟩:∃x,img A1 B1 C1 E1 (0,1)=x:=⟨_,rfl⟩
   obtain⟨y,hy⟩:∃y,img A1 B1 C1 E1 (1,0)=y:=⟨_,rfl⟩
   rw[hx]at pX qQ qR O;rw[hy]at pY qS qT O;rw[hx,hy];obtain⟨oG,J,⟨bA,bB⟩,bC,bE⟩:=oX.1;have hO:=rY.1.2.2;obtain⟨ex,pZ,bx1,bx2⟩:=Wn (K:=120) (H:=20000) J.det0 bA bB bC bE pX qQ qR (by decide);obtain⟨ey,qA,sK,sL⟩:=Wn (K:=120) (H:=20000) J.det0 bA bB bC bE pY qS qT (by decide);obtain⟨u,hu⟩:∃u,img A B C0 E x=u:=⟨_,rfl⟩
   obtain⟨v,hv⟩:∃v,img A B C0 E y=v:=⟨_,rfl⟩
   rw[hu]at ex pZ bx1 bx2 O;rw[hv]at ey qA sK sL O;obtain⟨S,hS⟩:∃S,symP wt (jf / N) A1 B1 C1 E1=S:=⟨_,rfl⟩
   have tF:∀j,hq (S j)<=4000:=λj=>by rw[<-hS];exact V4 hO (by have:=hL.bA;omega) (by have:=hL.bB;omega) (by have:=hL.bC;omega) (by have:=hL.bE;omega) j
   have tG:∀j,hq (subst S wt E (-B) (-C0) A (wt+1) j)<=4000:=λj=>by rw[<-hS];exact V5 hO hL.bA hL.bB hL.bC hL.bE bA bB bC bE j
   rw[hS]at cC O;have pG:=Kh cC;have rL:=Kh O;have oS:=dY.1.trans (hI.mono dY.1.size);have rI:=Kh oS;have hY:=Kh (λW (Y:Below w6.heap.size w6 W)=>(Hq 4000 (by decide) (by decide) (.slice (some ⟨g6,0,none⟩) (wt+1) hZ) (wt+1) (λi=>(S i).num) (λi=>((S i).den:Int)) x.1 x.2 y.1 y.2 A B C0 E W (((cC.keep (λ_=>IsQ.solid _) Y).ql hZ).isB (λi _=>tF i)) (by omega) (by omega) (by omega) (by omega) (by omega) (by omega) (by omega) (by omega) (by omega) (by omega) J.det0 (by omega) (by omega) (by omega) (by omega) (by omega) (by omega) (by omega) (by omega)));have he:jD A B C0 E x.1 x.2 y.1 y.2=0:=by unfold jD;rw[ex,ey];rfl
   rw[ex,ey,he,show(λi=>Rat.divInt (S i).num ((S i).den:Int))=S from funext λi=>Rat.num_divInt_den _,Nat.add_sub_cancel]at hY;have gS:=Kh (λW (Y:Below w.heap.size w W) vq vJ=>uI.1 W Y vq (subst S wt E (-B) (-C0) A (wt+1)) u.1 u.2 v.1 v.2 vJ (λj _=>tG j) (by omega) (by omega) (by omega) (by omega) (by omega) (by omega) (by omega) (by omega));have oZ:=Kh (And.intro pZ qA);have oM:=Kh (hX.1.keep hI);have oK:=Kh (show ∀k,k<R->w6.cell? ⟨gF,k,none⟩=some (.int .i64 ((F.getD k 0:Nat):Int))from λk hk=>cell_next hI (pA.1 gF rfl k hk));have oO:=Kh (bk pK hI);have hV:=Kh (bk rV hI);obtain⟨x0,tN⟩:∃i,x.1=i:=⟨_,rfl⟩
   obtain⟨x1,oV⟩:∃i,x.2=i:=⟨_,rfl⟩
   obtain⟨y0,tP⟩:∃i,y.1=i:=⟨_,rfl⟩
   obtain⟨y1,oW⟩:∃i,y.2=i:=⟨_,rfl⟩
   obtain⟨u0,qM⟩:∃i,u.1=i:=⟨_,rfl⟩
   obtain⟨u1,qN⟩:∃i,u.2=i:=⟨_,rfl⟩
   obtain⟨v0,qO⟩:∃i,v.1=i:=⟨_,rfl⟩
   obtain⟨v1,hv1⟩:∃i,v.2=i:=⟨_,rfl⟩
   have nY:=Kh (show u=(u0,u1)/\v=(v0,v1)from⟨by rw[<-qM,<-qN],by rw[<-qO,<-hv1]⟩);rw[tN,oV,tP,oW]at hY ⊢;rw[qM,qN,qO,hv1]at gS oZ;obtain⟨L1,sP⟩:∃L1,wt+1=L1:=⟨_,rfl⟩
   have rX:=Kh sP;rw[sP]at hY gS pG ⊢;clear hL pX qQ qR pY qS qT O hx hy ex pZ bx1 bx2 ey qA sK sL hu hv hS tF tG cC oS he tN oV tP oW qM qN qO hv1 c0 vG hI oL hX pA pK rV dY oG J bA bB bC bE hO;go_upto_region 16 with(fail)
   obtain⟨w7,tL,P7,oD⟩:=bx1 w6 #[.slice (some ⟨g6,0,none⟩) L1 hZ,.int .i64 x0,.int .i64 x1,.int .i64 y0,.int .i64 y1] 57;rw[tL];obtain⟨gp,qE⟩:∃x,w6.heap.size=x:=⟨_,rfl⟩
   rw[qE]at P7 ⊢;have rU:=Kh qE;have oN:=Kh (hY.1 w7 oD);have oI:=Kh oD;have pE:=Kh P7;have cD:=Kh (bk hV oD);have p0:=P7.at_ 0 rfl;have p1:=P7.at_ 1 rfl;have p2:=P7.at_ 2 rfl;have p3:=P7.at_ 3 rfl;have p4:=P7.at_ 4 rfl;have q0:=cD.1.at_ 0 rfl;have q1:=cD.1.at_ 1 rfl;have q2:=cD.1.at_ 2 rfl;have q3:=cD.1.at_ 3 rfl;clear tL P7 oD qE hY cD;go_wp2_with fail
   refine oN.1.mono ?_;rintro e w8 ⟨tE,pU⟩;obtain⟨_,eP,V,rfl,sW,mC⟩:=tE.resolve_left (λh=>h.1 rfl);dsimp only;rw[nY.1.1,nY.1.2];dsimp only;have hW:=Kh mC;have P8:=bk pE pU;have I:=Kh P8;have oJ:=bt oI pU;have rZ:=Kh (show eP≠gp by have h1:=pE.1.lt;omega);clear p0 p1 p2 p3 p4 q0 q1 q2 q3 tE pU sW mC oI oN P8 pE;have p0:=I.1.at_ 0 rfl;have p1:=I.1.at_ 1 rfl;have p2:=I.1.at_ 2 rfl;have p3:=I.1.at_ 3 rfl;have p4:=I.1.at_ 4 rfl;have f0:=I.1.free_ 0;have f1:=I.1.free_ 1;have f2:=I.1.free_ 2;have f3:=I.1.free_ 3;have f4:=I.1.free_ 4;go_upto_region 17 with(fail)
   have mD:Stk NotU32 w8 gp:=Stk.of I.1 (by intro v hv;simp at hv;rcases hv with rfl|rfl|rfl|rfl|rfl <;> exact λ_ h=>by cases h);have hJ:w6.heap.size<=gp:=Nat.le_of_eq rU.1;have sO:=I32.path mD (some ⟨eP,0,none⟩) L1 V u0 u1 v0 v1;have oU:=Kj w8 gp (.slice (some ⟨eP,0,none⟩) L1 V) (.int .i64 u0) (.int .i64 u1) (.int .i64 v0) (.int .i64 v1);have P9:=((((I.1.set_ 0 (.slice (some ⟨eP,0,none⟩) L1 V)).set_ 1 (.int .i64 u0)).set_ 2 (.int .i64 u1)).set_ 3 (.int .i64 v0)).set_ 4 (.int .i64 v1);have hE:=((((oJ.1.setCell (p:=⟨gp,0,none⟩) hJ (.slice (some ⟨eP,0,none⟩) L1 V)).setCell (p:=⟨gp,1,none⟩) hJ (.int .i64 u0)).setCell (p:=⟨gp,2,none⟩) hJ (.int .i64 u1)).setCell (p:=⟨gp,3,none⟩) hJ (.int .i64 v0)).setCell (p:=⟨gp,4,none⟩) hJ (.int .i64 v1);have gN:=hW.1.i32 (λ_=>IsQ.solid _) sO oU rZ.1;obtain⟨w9,tM⟩:∃w9,((((w8.setCell ⟨gp,0,none⟩ (.slice (some ⟨eP,0,none⟩) L1 V)).setCell ⟨gp,1,none⟩ (.int .i64 u0)).setCell ⟨gp,2,none⟩ (.int .i64 u1)).setCell ⟨gp,3,none⟩ (.int .i64 v0)).setCell ⟨gp,4,none⟩ (.int .i64 v1)=w9:=⟨_,rfl⟩
   rw[tM]at P9 hE gN ⊢;have Z:=rI.1.trans (hE.mono rI.1.size);have rJ:=Kh (gS.1 w9 Z (.slice (some ⟨eP,0,none⟩) L1 V) (gN.ql V));have hU:=Kh Z;have hQ:=Kh hE;clear p0 p1 p2 p3 p4 f0 f1 f2 f3 f4 mD hJ sO oU gN tM hE Z gS oJ hW I rZ rU;have p0:=P9.at_ 0 rfl;have p1:=P9.at_ 1 rfl;have p2:=P9.at_ 2 rfl;have p3:=P9.at_ 3 rfl;have p4:=P9.at_ 4 rfl;clear P9;go_wp2_with fail
   refine rJ.1.mono ?_;rintro e wv ⟨sU,pW⟩
   obtain⟨_,gv,rfl,_,qL,mE⟩:=sU.resolve_left (λh=>by
    rcases h.1 with h1|h1
    ·exact h1 oZ.1.1
    ·exact h1 oZ.1.2)
   rw[cG.1]at qL mE ⊢;have O:=rL.1;rw[nY.1.1,nY.1.2,rX.1]at O;have dC:=hQ.1.trans (pW.mono hQ.1.size);have oH:=bt hU pW;have uV:=Kh (show QRow (λq=>IsQ (RM i q)) wv gv R R from qL.congr (λq hq=>by rw[O q hq]))
   have uW:=Kh (show ∀a b,a<i+1->b<R->hq (RM a b)<=430000000 from λa b ha Y=>by
    rcases Nat.lt_or_ge a i with h|h
    ·exact pI.1 a b h Y
    ·obtain rfl:a=i:=by omega
     have h1:=mE b Y;rw[O b Y]at h1;exact h1)
   obtain⟨vA,qH,tC⟩:=oM.1.keep dC;have qC:∀k,k<R->wv.cell? ⟨gF,k,none⟩=some (.int .i64 ((F.getD k 0:Nat):Int)):=λk hk=>cell_next dC (oK.1 k hk)
   have pJ:=Kh (bk oO dC);have pC:=Kh (bk hV dC)
   have gL:∀{b:Nat} {i:Int},wv.cell? ⟨b,0,none⟩=some (.int .i64 i)->some b≠Value.ownBlock u9:=λh e=>by
    obtain⟨p',n',c',h3⟩:=(qH.2 _ e.symm).2 0 _ h;cases h3
   have uN:=Kh (gL (qC 0 (by omega)));have uO:=Kh (gL (pJ.1.at_ 0 rfl));have uP:=Kh (gL (pC.1.at_ 0 rfl));have pD:=Kh qH;have uU:=Kh tC;have rQ:=Kh qC;have oT:=oH.1.size;have vX:i<=72:=by omega
   clear p0 p1 p2 p3 p4 sU pW qL mE O dC qH tC qC gL oM oK oO hV rJ hU hQ;go_wp2_with (at_builtin;refine B9 SliceV rfl (.tmp 72) (.tmp 74) _ 30 rfl underlying104 Lk rfl (by decide) w.heap.size i u9 ((List.range i).map λi=>Value.slice (some ⟨vA i,0,none⟩) R R) [.slice (some ⟨gv,0,none⟩) R R] rfl pD.1 rfl rfl (kM _ _ _) (by omega) (by omega) oT (mK _ _ _) mJ ?_;intro v9 qU mB aX sR;have sD:=Kh (RowsX.push pD.1 uU.1 uV.1 mB aX);have rP:=Kh (show ∀g,some (⟨gF,0,none⟩:Addr)=some ⟨g,0,none⟩->∀k,k<R->qU.cell? ⟨g,k,none⟩=some (.int .i64 ((F.getD k 0:Nat):Int))from λg hg k hk=>by(injection hg with hg;injection hg with hg;subst hg;exact aX.cell (rQ.1 k hk) uN.1));have sI:=Kh (show Blk qU gr 32 #[.int .i64 0,.int .i64 0,.slice none 0 0]from(aX.block gr pJ.1.lt uO.1).trans pJ.1);have rR:=Kh (show Blk qU gg 63 #[.int .i64 A,.int .i64 B,.int .i64 C0,.int .i64 E]from(aX.block gg pC.1.lt uP.1).trans pC.1);have rG:=Kh (A7 oH.1 pD.1.1 aX (nR _) oT);clear mB aX sR)
   go_roundw
   case rel=>exact⟨i+1,by omega,by go_num,sD.1,rP.1,uW.1,rG.1,sI.1,rR.1⟩
   case measure=>simp[intOf];omega
  ·obtain rfl:R=i:=by omega
   clear hlt hi;go_wp2_with fail
   refine(rK.1 wx dY.1).mono ?_;rintro e w' ⟨rfl,tI⟩;obtain rfl:wx=w':=tI.symm;clear tI;go_wp2_with fail
   refine(O2 RM R R u9 wx hX.1.read (by omega) (by omega) (λa b ha Y=>nS (pI.1 a b ha Y) (by decide))).mono ?_;rintro e w9 ⟨⟨p9,c9,rfl,oF⟩,pV⟩;have X9:=bk pK pV;have Z:=dY.1.trans (pV.mono dY.1.size);have x0:=X9.at_ 0 rfl;have x1:=X9.at_ 1 rfl;have x2:=X9.at_ 2 rfl;have f0:=X9.free_ 0;have f1:=X9.free_ 1;have f2:=X9.free_ 2;have mD:Stk NotU32 w9 gr:=Stk.of X9 (by intro v hv;simp at hv;rcases hv with rfl|rfl|rfl <;> exact λ_ h=>by cases h);have gL:Stk (λv=>∀b,v≠.bool b) w9 gr:=Stk.of X9 (by intro v hv;simp at hv;rcases hv with rfl|rfl|rfl <;> exact λ_ h=>by cases h);obtain⟨RL,pP⟩:∃x,R*R=x:=⟨_,rfl⟩
   have sB:=Kh pP;rw[pP]at oF ⊢
   have uT:=Kh (show ∀W,I32 w9 W->w9.grownBy W (some gr)->QL (λj=>IsQ (RM (j / R) (j % R))) W (.slice p9 RL c9) RL from λW h1 h2=>by
    rcases Nat.eq_zero_or_pos RL with h|h
    ·exact .inl ⟨h,_,_,by rw[h]⟩
    ·exact oF.boxed (λ_=>IsQ.solid _) h1 h2 (λa ha e=>by
      obtain⟨g,o,cap,e1,_,h1⟩:=oF.resolve_left (λh=>by omega);injection e1 with e1
      obtain⟨s,p,n',c,t,q,m',d,h2,_⟩:=h1 0 h;rw[ha]at e1;injection e1 with e1
      rw[e1]at e;rw[show g=gr from e]at h2;exact gL.2 _ _ h2 _ rfl))
   have U:=Kh (A9 (w:=w9) (R:=gr) (v0:=.int .i64 (R:Int)) (v1:=.int .i64 (R:Int)) (v2:=.slice p9 RL c9) (by rw[x0];rfl) (by rw[x1];rfl) (by rw[x2];rfl));have uL:=Kh (Cc mD (v0:=.int .i64 (R:Int)) (v1:=.int .i64 (R:Int)) (v2:=.slice p9 RL c9) (λ_ h=>by cases h) (λ_ h=>by cases h));have hH:=Kh (((Ad w9 gr 0 (.int .i64 (R:Int))).trans (Ad _ gr 1 (.int .i64 (R:Int)))).trans (Ad _ gr 2 (.slice p9 RL c9)));have hU:=Kh Z;clear oF pV Z X9 mD gL pP;go_wp2;have e0:=U.1.1;have e1:=U.1.2.1;have e2:=U.1.2.2;try simp only[Exit.inBlock,Exit.then]
   refine bodyPost_ret (by simp[results,results41,go_sem,e0,e1,e2];try rfl) rfl ?_;exact⟨⟨_,_,p9,RL,c9,0,rfl,λ_ _=>rfl,λ_=>⟨m,A,B,C0,E,rfl,oX.1.1,oX.1.2.1,by rw[cG.1],by rw[cG.1],by rw[cG.1,sB.1],by rw[cG.1,sB.1,sC.1];exact uT.1 _ uL.1 hH.1,by rw[cG.1,sC.1];exact pI.1⟩⟩,Ae hU.1 hH.1 hU.1.size (by have:=pB.1;omega)⟩
end
section
open Eli
theorem bD {n:Nat} {q r M x y z Bq Br Bs:Int} (hn:(n:Int)=q*r*M) (I:q*x - Bq*(r*M)=1) (J:r*y - Br*(q*M)=1) (O:q*r*z - Bs*M=1):
  ∃a b c d:Int,G0 n a b c d/\r*y*(q*x)+Br*n=a*(q*r*z)+b*n/\r*y*Bq+Br*q=a*Bs+b*(q*r)/\n*(q*x)+r*n=c*(q*r*z)+d*n/\n*Bq+r*q=c*Bs+d*(q*r):=by
 refine⟨r*y*(q*x)+Br*n - (r*y*Bq+Br*q)*M,-(y*x*Bs) - Br*M*Bs+r*y*Bq*z+Br*q*z,n*(q*x)+r*n - (n*Bq+r*q)*M,-(M*(q*x)*Bs) - M*r*Bs+n*Bq*z+r*q*z,⟨?_,?_⟩,?_,?_,?_,?_⟩
 ·rw[hn];grind
 ·refine⟨q*x+r - M*Bq - 1,?_⟩
  rw[hn];grind
 all_goals rw[hn];grind
theorem Uk {n:Nat} {q M x B:Int} (hn:(n:Int)=q*M) (I:q*x - B*M=1):
  ∃a b c d:Int,G0 n a b c d/\q*x*(q*x)+B*n=q*a/\q*x*B+B*q=q*b/\n*(q*x)+q*n=q*c/\n*B+q*q=q*d:=by
 refine⟨q*x*x+B*M,x*B+B,n*x+n,M*B+q,⟨?_,?_⟩,?_,?_,?_,?_⟩
 ·rw[hn];grind
 ·exact⟨x+1,by grind⟩
 all_goals (try rw[hn]);grind
theorem fO {n:Nat} {A B C E:Int} (h:ALm n 1 A B C E):G0 n A B C E:=⟨by rw[h.det];rfl,by rw[h.c];exact Int.dvd_refl _⟩
theorem aQ {n q r wt:Nat} {F:List Nat} {X:Nat->Nat->Rat} {γ:Nat->M4} {A B C E A' B' Y Z:Int} (I:Pl.check n ((wt:Int)+2) 1=0) (hc:Crd n wt 1 F X) (hR:∀f,f∈F->RelZ n wt 1 (λj=>X j f)) (V:Dj n γ) (h:ALm n q A B C E) (h':ALm n r A' B' Y Z) (hN:0<(pts n (n*n)).length) {i k:Nat} (hk:k<F.length):
  Fe (wM n wt 1 F X γ A B C E i) (wM n wt 1 F X γ A' B' Y Z) F.length k=wM n wt 1 F X γ (A'*A+B'*C) (A'*B+B'*E) (Y*A+Z*C) (Y*B+Z*E) i k:=by
 obtain⟨g1,_,_⟩:=V _ (Nat.mod_lt (F.getD i 0) hN);obtain⟨g,hg⟩:∃g,γ (F.getD i 0 % (pts n (n*n)).length)=g:=⟨_,rfl⟩
 have J:∀(a b c d:Int) (m:Nat),wM n wt 1 F X γ a b c d i m=clG n wt 1 (λj=>X j (F.getD m 0)) a b c d (subst (mono (F.getD i 0 / (pts n (n*n)).length)) wt g.2.2.2 (-g.2.1) (-g.2.2.1) g.1 (wt+1)) (img g.1 g.2.1 g.2.2.1 g.2.2.2 (0,1)) (img g.1 g.2.1 g.2.2.1 g.2.2.2 (1,0)):=λ_ _ _ _ _=>by rw[<-hg];rfl
 rw[hg]at g1;obtain⟨a,b,c,d⟩:=g;dsimp only at g1 J;have hx:Cu (img a b c d (0,1)):=Ay (by omega) Cu.zero;have hy:Cu (img a b c d (1,0)):=Ay (by omega) Cu.inf;obtain⟨x,O⟩:∃x,img a b c d (0,1)=x:=⟨_,rfl⟩
 obtain⟨y,U⟩:∃x,img a b c d (1,0)=x:=⟨_,rfl⟩
 rw[O]at hx;rw[U]at hy;rw[O,U]at J;obtain⟨P,hP⟩:∃P,subst (mono (F.getD i 0 / (pts n (n*n)).length)) wt d (-b) (-c) a (wt+1)=P:=⟨_,rfl⟩
 rw[hP]at J;rw[J,show wM n wt 1 F X γ A B C E i=λm=>clG n wt 1 (λj=>X j (F.getD m 0)) A B C E P x y from funext λm=>J A B C E m,S5 h'.det0 h.det0 P hx hy];exact(PF.coords I hc (PF.of_norm I (hR _ (Ax hk)) h'.det0 (Tg I h')) V (subst P wt E (-B) (-C) A (wt+1)) (Ay h.det0 hx) (Ay h.det0 hy)).symm
theorem iZ {n q r wt:Nat} {F:List Nat} {X:Nat->Nat->Rat} {γ:Nat->M4} {A B C E A' B' C' E' O J U V:Int} (Z:Pl.check n ((wt:Int)+2) 1=0) (hc:Crd n wt 1 F X) (hR:∀f,f∈F->RelZ n wt 1 (λj=>X j f)) (aX:Dj n γ) (h:ALm n q A B C E) (Y:ALm n r A' B' C' E') (I:ALm n (q*r) O J U V) (hN:0<(pts n (n*n)).length) {i k:Nat} (hk:k<F.length):
  Fe (wM n wt 1 F X γ A B C E i) (wM n wt 1 F X γ A' B' C' E') F.length k=wM n wt 1 F X γ O J U V i k:=by
 rw[aQ Z hc hR aX h Y hN hk];obtain⟨x,hx,e1⟩:=h.one;obtain⟨y,hy,e2⟩:=Y.one;obtain⟨z,hz,e3⟩:=I.one;obtain⟨M,hM⟩:∃M,n / (q*r)=M:=⟨_,rfl⟩
 have hn:n=q*r*M:=by rw[<-hM];exact I.dv
 have hq:=h.hq;have hr:=Y.hq;have d1:n / q=r*M:=by rw[hn,Nat.mul_assoc];exact Nat.mul_div_cancel_left _ hq
 have d2:n / r=q*M:=by rw[hn,Nat.mul_comm q r,Nat.mul_assoc];exact Nat.mul_div_cancel_left _ hr
 rw[d1]at e1;rw[d2]at e2;rw[hM]at e3
 push_cast at e1 e2 e3
 obtain⟨a,b,c,d,hG,f1,f2,f3,f4⟩:=bD (n:=n) (q:=(q:Int)) (r:=(r:Int)) (M:=(M:Int)) (x:=x) (y:=y) (z:=z) (Bq:=B) (Br:=B') (Bs:=J) (by rw[hn];push_cast;rfl) e1 e2 e3;have g1:A'*A+B'*C=a*O+b*U:=by rw[hx,hy,hz,h.c,I.c];push_cast;exact f1
 have g2:A'*B+B'*E=a*J+b*V:=by rw[hy,h.e,I.e];push_cast;exact f2
 have g3:C'*A+E'*C=c*O+d*U:=by rw[hx,hz,Y.c,Y.e,h.c,I.c];push_cast;exact f3
 have g4:C'*B+E'*E=c*J+d*V:=by rw[Y.c,Y.e,h.e,I.e];push_cast;exact f4
 rw[g1,g2,g3,g4];obtain⟨k1,_,_⟩:=aX _ (Nat.mod_lt (F.getD i 0) hN);unfold wM Mg;exact Pm Z (hR _ (Ax hk)) I.det0 hG _ (Ay (by omega) Cu.zero) (Ay (by omega) Cu.inf)
theorem Zd (t:Int) (i:Nat) (a b c d:Int):∀k j,mv i (t*a) (t*b) (t*c) (t*d) k j=t ^ k*mv i a b c d k j:=by
 intro k;induction k with
 | zero=>
  intro j;show(if j=0 then(1:Int)else 0)=t ^ 0*(if j=0 then(1:Int)else 0);rw[Int.pow_zero,Int.one_mul]
 | succ k ih=>
  intro j;rw[mv,mv];split
  ·unfold lin
   rw[ih,ih,Int.pow_succ];split <;> grind
  ·unfold lin
   rw[ih,ih,Int.pow_succ];split <;> grind
theorem Qt (t:Int) (Q:Nat->Rat) (wt:Nat) (a b c d:Int) (n j:Nat):subst Q wt (t*a) (t*b) (t*c) (t*d) n j=((t ^ wt:Int):Rat)*subst Q wt a b c d n j:=by
 unfold subst;rw[<-Am];exact Ac (λi _=>by rw[Zd];push_cast;grind)
theorem Ms {t:Int} (Y:t≠0) {a b c d:Int} (h:a*d - b*c≠0) {x:Int×Int} (Z:Cu x):img (t*a) (t*b) (t*c) (t*d) x=img a b c d x:=by
 obtain⟨k,u,v,U,hg,J,O,V,I,_⟩:=D5 (Fa h Z);have e:img a b c d x=(u,v):=V;rw[e];have f1:t*(a*x.1+b*x.2)=t*(k*u):=by rw[J]
 have f2:t*(c*x.1+d*x.2)=t*(k*v):=by rw[O]
 exact Iy (k:=t*k) (Int.mul_ne_zero Y U) ⟨I,hg⟩ (by dsimp only;grind) (by dsimp only;grind)
theorem Nd {z n:Nat} (h:z<n):((z:Int) % n).toNat=z:=by
 rw[Int.emod_eq_of_lt (by omega) (by omega)];rfl
section
variable {n wt:Nat} {D:Int} {x:Nat->Rat} {γ:Nat->M4}
theorem Tq (t:Rat) (Q:Nat->Rat) (a b c d:Int):ph n wt D x (λj=>t*Q j) a b c d=t*ph n wt D x Q a b c d:=by
 have h:=R7 (n:=n) (wt:=wt) (D:=D) (x:=x) (λ_=>t) (λ_=>Q) 1 a b c d;simp only[sumQ]at h;have e:(λj=>(0:Rat)+t*Q j)=λj=>t*Q j:=funext λj=>by grind
 rw[e]at h;rw[h];grind
theorem V1 (t:Rat) (Q:Nat->Rat) (u v:Int×Int):Ah n wt D x (λj=>t*Q j) u v=t*Ah n wt D x Q u v:=by
 unfold Ah;rw[Tq,Tq];split <;> rfl
theorem Qg (t:Rat) (Q:Nat->Rat):∀u,Cu u->Pot (Ah n wt D x (λj=>t*Q j)) u=t*Pot (Ah n wt D x Q) u:=by
 refine Kx ?_ (λz y Z Y V I J O U=>?_)
 ·rw[Ge,Ge,Rat.mul_zero]
 ·rw[Ck I J O,Ck (st:=Ah n wt D x Q) I J O,U,V1]
  grind
theorem U3 {t A B C E:Int} (I:t≠0) (h:A*E - B*C≠0) (P:Nat->Rat) {u v:Int×Int} (J:Cu u) (O:Cu v):
  clG n wt D x (t*A) (t*B) (t*C) (t*E) P u v=((t ^ wt:Int):Rat)*clG n wt D x A B C E P u v:=by
 unfold clG;rw[Ms I h J,Ms I h O]
 have e:subst P wt (t*E) (-(t*B)) (-(t*C)) (t*A) (wt+1)=λj=>((t ^ wt:Int):Rat)*subst P wt E (-B) (-C) A (wt+1) j:=funext λj=>by
  rw[show -(t*B)=t * -B by grind,show -(t*C)=t * -C by grind,Qt]
 rw[e,Qg _ _ _ (Ay h J),Qg _ _ _ (Ay h O)];grind
theorem dQ (U:Pl.check n ((wt:Int)+2) D=0) (hR:RelZ n wt D x) (Q:Nat->Rat) {a b c d:Int} (h:a*d - b*c=1):
  Pot (Ah n wt D x Q) (img a b c d (1,0)) - Pot (Ah n wt D x Q) (img a b c d (0,1))=ph n wt D x Q a b c d:=by
 obtain⟨gy,J⟩:=Es h Cu.zero.2;obtain⟨gz,O⟩:=Es h Cu.inf.2;dsimp only at J O;obtain⟨Y,hY⟩:∃Y:Int×Int,Y=(b,d):=⟨_,rfl⟩
 obtain⟨Z,hZ⟩:∃Z:Int×Int,Z=(a,c):=⟨_,rfl⟩
 have I:Nb Y Z:=.inl (by rw[hY,hZ];dsimp only;grind)
 have h0:Ah n wt D x Q Y Z=ph n wt D x Q a b c d:=by
  unfold Ah;rw[if_pos (by rw[hY,hZ];dsimp only;grind),hY,hZ]
 have bC:img a b c d (0,1)=Y∨img a b c d (0,1)=(-Y.1,-Y.2):=by
  rw[hY];rcases J with J|J
  ·left;exact Prod.ext (by rw[J.1];dsimp only;grind) (by rw[J.2];dsimp only;grind)
  ·right;exact Prod.ext (by rw[J.1];dsimp only;grind) (by rw[J.2];dsimp only;grind)
 have bE:img a b c d (1,0)=Z∨img a b c d (1,0)=(-Z.1,-Z.2):=by
  rw[hZ];rcases O with O|O
  ·left;exact Prod.ext (by rw[O.1];dsimp only;grind) (by rw[O.2];dsimp only;grind)
  ·right;exact Prod.ext (by rw[O.1];dsimp only;grind) (by rw[O.2];dsimp only;grind)
 have V:Nb (img a b c d (0,1)) (img a b c d (1,0))/\Ah n wt D x Q (img a b c d (0,1)) (img a b c d (1,0))=Ah n wt D x Q Y Z:=by
  rcases bC with e1|e1 <;> rcases bE with e2|e2 <;> rw[e1,e2]
  ·exact⟨I,rfl⟩
  ·exact⟨Gl I,Fq U hR I⟩
  ·exact⟨Hy I,Fp I⟩
  ·exact⟨Hy (Gl I),(Fp (Gl I)).trans (Fq U hR I)⟩
 rw[<-h0,<-V.2];exact((Lm (Q:=Q) U hR).diff _ _ _ gy gz V.1 (nR _)).symm
theorem Ym {x:Int×Int} (I:Cu x):img 1 0 0 1 x=x:=Iy (k:=1) (by decide) I (by grind) (by grind)
theorem jU (U:Pl.check n ((wt:Int)+2) D=0) (hR:RelZ n wt D x) (cB:Dj n γ) {j:Nat} (hj:j<cntF n wt):
  Mg wt (pts n (n*n)).length γ (clG n wt D x 1 0 0 1) j=x j:=by
 obtain⟨⟨a1,a2⟩,_⟩:=Pl.check_ok U;have hn:0<n:=by omega
 obtain⟨m,O⟩:∃m,(pts n (n*n)).length=m:=⟨_,rfl⟩
 have bE:0<m:=by rw[<-O];exact Ev hn
 have hp:j % m<m:=Nat.mod_lt _ bE
 have hi:j / m<wt+1:=Nat.div_lt_of_lt_mul (by
  unfold cntF at hj;rw[O]at hj;rw[Nat.mul_comm];exact hj)
 obtain⟨Z,h,g3⟩:=cB (j % m) (by rw[O];exact hp);have I:=dN (n:=n) (D:=D) (j:=j % m) hn (by rw[O];exact hp);have J:=Nat.div_add_mod j m;obtain⟨p,Y⟩:∃p,j % m=p:=⟨_,rfl⟩
 obtain⟨i,V⟩:∃i,j / m=i:=⟨_,rfl⟩
 rw[Y]at hp Z h g3 I J;rw[V]at hi J;obtain⟨⟨a,b,c,d⟩,hg⟩:∃g,γ p=g:=⟨_,rfl⟩
 rw[hg]at Z h g3;dsimp only at Z h g3;have hx:Cu (img a b c d (0,1)):=Ay (by omega) Cu.zero;have hy:Cu (img a b c d (1,0)):=Ay (by omega) Cu.inf;rw[O];unfold Mg clG;rw[Y,V,hg];dsimp only;have e0:∀Q:Nat->Rat,Ah n wt D x (subst Q wt 1 (-0) (-0) 1 (wt+1))=Ah n wt D x Q:=λQ=>V0 (λl hl=>by rw[Int.neg_zero];exact Gu Q wt l hl)
 rw[e0,Ym hx,Ym hy,dQ U hR _ Z];unfold ph;rw[I8,show d*a+-b*c=1 by grind,show d*b+-b*d=0 by grind,show -c*a+a*c=0 by grind,show -c*b+a*d=1 by grind]
 have cA:Al n D c d=(p,1):=by
  unfold Al;rw[h,g3]
  have q1:(((((pts n (n*n)).getD p 0 / n:Nat):Int) % n).toNat)=(pts n (n*n)).getD p 0 / n:=by
   exact Nd (Nat.div_lt_of_lt_mul (Fk (Ax (by rw[O];exact hp))))
  have q2:(((((pts n (n*n)).getD p 0 % n:Nat):Int) % n).toNat)=(pts n (n*n)).getD p 0 % n:=by
   exact Nd (Nat.mod_lt _ hn)
  rw[q1,q2,Nat.div_add_mod'];exact I
 rw[cA];unfold cP;dsimp only;rw[O,Bc hi]
 ·rw[Gu _ _ _ hi]
  unfold mono;rw[if_pos rfl,show i*m+p=j by rw[Nat.mul_comm];exact J];show 1*((1:Int):Rat)*x j=x j;grind
 ·intro k hk bY
  rw[Gu _ _ _ hk];unfold mono;rw[if_neg bY];grind
end
section
variable {n q wt:Nat} {F:List Nat} {X:Nat->Nat->Rat} {γ:Nat->M4}
theorem fH (I:Pl.check n ((wt:Int)+2) 1=0) (Y:Crd n wt 1 F X) (V:∀f,f∈F->RelZ n wt 1 (λj=>X j f)) (J:Dj n γ) {A B C E:Int} (h:G0 n A B C E) {i k:Nat} (Z:i<F.length) (O:k<F.length):
  wM n wt 1 F X γ A B C E i k=if k=i then 1 else 0:=by
 obtain⟨⟨a1,a2⟩,_⟩:=Pl.check_ok I;have hn:0<n:=by omega
 obtain⟨U,_,_⟩:=J _ (Nat.mod_lt (F.getD i 0) (Ev hn));rw[<-Y.one i k Z O,<-jU (γ:=γ) I (V _ (Ax O)) J (Y.low _ (Ax Z))];unfold wM Mg;have hx:Cu (img (γ (F.getD i 0 % (pts n (n*n)).length)).1 (γ (F.getD i 0 % (pts n (n*n)).length)).2.1 (γ (F.getD i 0 % (pts n (n*n)).length)).2.2.1 (γ (F.getD i 0 % (pts n (n*n)).length)).2.2.2 (0,1)):=Ay (by rw[U];decide) Cu.zero;have hy:Cu (img (γ (F.getD i 0 % (pts n (n*n)).length)).1 (γ (F.getD i 0 % (pts n (n*n)).length)).2.1 (γ (F.getD i 0 % (pts n (n*n)).length)).2.2.1 (γ (F.getD i 0 % (pts n (n*n)).length)).2.2.2 (1,0)):=Ay (by rw[U];decide) Cu.inf;have hl:=Pm (A:=1) (B:=0) (C:=0) (E:=1) I (V _ (Ax O)) (by decide) h (subst (mono (F.getD i 0 / (pts n (n*n)).length)) wt (γ (F.getD i 0 % (pts n (n*n)).length)).2.2.2 (-(γ (F.getD i 0 % (pts n (n*n)).length)).2.1) (-(γ (F.getD i 0 % (pts n (n*n)).length)).2.2.1) (γ (F.getD i 0 % (pts n (n*n)).length)).1 (wt+1)) hx hy;rw[show A*1+B*0=A by omega,show A*0+B*1=B by omega,show C*1+E*0=C by omega,show C*0+E*1=E by omega]at hl;exact hl
theorem lI (I:Pl.check n ((wt:Int)+2) 1=0) (U:Crd n wt 1 F X) (O:∀f,f∈F->RelZ n wt 1 (λj=>X j f)) (J:Dj n γ) {A B C E:Int} (h:ALm n 1 A B C E) {i k:Nat} (V:i<F.length) (Y:k<F.length):
  wM n wt 1 F X γ A B C E i k=if k=i then 1 else 0:=fH I U O J (fO h) V Y
theorem aR (I:Pl.check n ((wt:Int)+2) 1=0) (hc:Crd n wt 1 F X) (hR:∀f,f∈F->RelZ n wt 1 (λj=>X j f)) (J:Dj n γ) {A B C E:Int} (h:ALm n q A B C E) {i k:Nat} (hi:i<F.length) (hk:k<F.length):
  Fe (wM n wt 1 F X γ A B C E i) (wM n wt 1 F X γ A B C E) F.length k=((((q:Int) ^ wt:Int)):Rat)*(if k=i then 1 else 0):=by
 obtain⟨⟨a1,a2⟩,_⟩:=Pl.check_ok I;have hn:0<n:=by omega
 rw[aQ I hc hR J h h (Ev hn) hk];obtain⟨x,U,V⟩:=h.one;obtain⟨M,Z⟩:∃M,n / q=M:=⟨_,rfl⟩
 have O:n=q*M:=by rw[<-Z];exact h.dv
 rw[Z]at V;obtain⟨a,b,c,d,Y,f1,f2,f3,f4⟩:=Uk (n:=n) (q:=(q:Int)) (M:=(M:Int)) (x:=x) (B:=B) (by rw[O];push_cast;rfl) V;have g1:A*A+B*C=q*a:=by rw[U,h.c];exact f1
 have g2:A*B+B*E=q*b:=by rw[U,h.e];exact f2
 have g3:C*A+E*C=q*c:=by rw[U,h.c,h.e];exact f3
 have g4:C*B+E*E=q*d:=by rw[h.c,h.e];exact f4
 rw[g1,g2,g3,g4,<-fH I hc hR J Y hi hk];obtain⟨k1,_,_⟩:=J _ (Nat.mod_lt (F.getD i 0) (Ev hn));unfold wM Mg;have hq:=h.hq;exact U3 (by omega) (by rw[Y.det];decide) _ (Ay (by omega) Cu.zero) (Ay (by omega) Cu.inf)
end
theorem eU {n wt:Nat} (I:Pl.check n ((wt:Int)+2) 1=0):wt % 2=0:=by
 unfold Pl.check at I;split at I
 ·cases I
 split at I
 ·cases I
 split at I
 ·cases I
 split at I
 ·cases I
 rename_i h;omega
end
end Go.Proofs.YtenlbhlllgppmaaGreatDoor
