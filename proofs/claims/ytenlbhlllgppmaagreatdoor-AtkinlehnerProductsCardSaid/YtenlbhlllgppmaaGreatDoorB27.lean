/- Contract of halfplaneref21.List: the list of P1(Z/n), as the reference counts it. -/
import Derived.Test.YtenlbhlllgppmaaGreatDoorB26
set_option linter.unusedSimpArgs false
set_option maxRecDepth 100000
set_option maxHeartbeats 8000000
namespace Go.Proofs.YtenlbhlllgppmaaGreatDoor
section
open Go.RowKit Tryz
def Oa (n u v s:Nat):Bool:=(Nat.gcd s n==1)&&(decide (s*u % n<u)||(decide (s*u % n=u)&&decide (s*v % n<v)))
theorem Yu {n u v A B:Nat} (O:v<n) (hB:B<n):u*n+v<=A*n+B↔¬(A<u∨A=u/\B<v):=by
 constructor
 ·rintro h (I |⟨rfl,I⟩)
  ·have J:(A+1)*n<=u*n:=Nat.mul_le_mul_right _ I
   rw[Nat.add_mul,Nat.one_mul]at J;omega
  ·omega
 ·intro h
  rcases Nat.lt_trichotomy A u with I|I|I
  ·exact absurd (.inl I) h
  ·subst I
   have:v<=B:=by
    rcases Nat.lt_or_ge B v with J|J
    ·exact absurd (.inr ⟨rfl,J⟩) h
    ·exact J
   omega
  ·have J:(u+1)*n<=A*n:=Nat.mul_le_mul_right _ I
   rw[Nat.add_mul,Nat.one_mul]at J;omega
theorem Vb {n u v:Nat} (hu:u<n) (U:v<n):(∀s,2<=s->s<n->Oa n u v s=false)↔Fi n (u*n+v)=true:=by
 have hn:0<n:=by omega
 have hd:(u*n+v) / n=u:=by rw[Nat.mul_comm,Nat.mul_add_div hn,Nat.div_eq_of_lt U,Nat.add_zero]
 have hm:(u*n+v) % n=v:=by rw[Nat.mul_comm,Nat.mul_add_mod,Nat.mod_eq_of_lt U]
 have hp:∀s,Az n s (u*n+v)=s*u % n*n+s*v % n:=λs=>by unfold Az;rw[hd,hm]
 have hlt:u*n+v<n*n:=by
  have:(u+1)*n<=n*n:=Nat.mul_le_mul_right _ hu;rw[Nat.add_mul,Nat.one_mul]at this;omega
 rw[Cz];constructor
 ·intro h s Y Z I
  rcases Nat.eq_or_lt_of_le Y with rfl|h4
  ·rw[Ic hlt];exact nR _
  ·rcases Nat.eq_or_lt_of_le Z with rfl|h5
   ·exfalso
    unfold pun at I;simp only[beq_iff_eq,Nat.gcd_self]at I;omega
   ·have O:=h s h4 h5
    unfold Oa at O;unfold pun at I;rw[I,Bool.true_and]at O;rw[hp,Yu U (Nat.mod_lt _ hn)];intro J
    have V:(decide (s*u % n<u)||(decide (s*u % n=u)&&decide (s*v % n<v)))=true:=by
     rcases J with J |⟨J,V⟩
     ·simp[J]
     ·simp[J,V]
    rw[V]at O;cases O
 ·intro h s Y Z
  unfold Oa;cases hg:(Nat.gcd s n==1)with
  | false=>rfl
  | true=>
   have I:=h s (by omega) (by omega) hg;rw[hp,Yu U (Nat.mod_lt _ hn)]at I;rw[Bool.true_and];cases hb:(decide (s*u % n<u)||(decide (s*u % n=u)&&decide (s*v % n<v)))with
   | false=>rfl
   | true=>
    exfalso;apply I;simp only[Bool.or_eq_true,Bool.and_eq_true,decide_eq_true_eq]at hb;exact hb
theorem Qj {n k:Nat} (hn:0<n) (I:k<n*n):pts n (k+1)=if E6 n k&&Fi n k then pts n k++[k]else pts n k:=by
 rw[Ci hn (k+1) I,Ci hn k (by omega),List.range_succ,List.filter_append];cases hc:(E6 n k&&Fi n k)with
 | true=>rw[if_pos rfl];simp[hc]
 | false=>rw[if_neg (by decide)];simp[hc]
theorem Uw (n u v:Nat) (w:World) (hu:u<n) (hv:v<n) (hn:n<=1000):
  Calls prog 185 #[.int .i64 n,.int .i64 u,.int .i64 v] w λe w'=>e=.returned (.bool (Fi n (u*n+v)))/\∃m,w'=w.drewN m:=by
 have bA:=Kh (Vb hu hv);go_enter func185,ntmps185
 go_wp2;go_loopw [7] (λx wr=>∃s:Nat,2<=s/\s<=n+2/\x=.int .i64 s/\(∀t,2<=t->t<s->Oa n u v t=false)/\∃m,wr=w.drewN m) (λx _=>n+2 - (intOf x).toNat)
 case atStart=>exact⟨2,nR _,by omega,rfl,λt J Z=>by omega,0,rfl⟩
 case round=>
  obtain⟨s,hs,dE,rfl,hl,m,rfl⟩:=hrel;have HL:=Kh hl;clear hl;by_cases hlt:s<n
  ·have dY:(s:Int)<(n:Int):=by omega
   obtain⟨P,hP⟩:∃x,s*u=x:=⟨_,rfl⟩
   obtain⟨Q,hQ⟩:∃x,s*v=x:=⟨_,rfl⟩
   obtain⟨A,hA⟩:∃x,P % n=x:=⟨_,rfl⟩
   obtain⟨B,hB⟩:∃x,Q % n=x:=⟨_,rfl⟩
   have cT:P<=1000000:=by rw[<-hP];exact Nat.mul_le_mul (by omega:s<=1000) (by omega:u<=1000)
   have cX:Q<=1000000:=by rw[<-hQ];exact Nat.mul_le_mul (by omega:s<=1000) (by omega:v<=1000)
   have e1:(s:Int)*(u:Int)=(P:Nat):=by rw[<-hP];push_cast;rfl
   have e2:(s:Int)*(v:Int)=(Q:Nat):=by rw[<-hQ];push_cast;rfl
   have e3:Int.tmod (P:Int) (n:Int)=(A:Nat):=by rw[Int.tmod_eq_emod_of_nonneg (by omega),<-hA];rfl
   have e4:Int.tmod (Q:Int) (n:Int)=(B:Nat):=by rw[Int.tmod_eq_emod_of_nonneg (by omega),<-hB];rfl
   have e5:((n:Int)==0)=false:=by simp;omega
   have cF:A<n:=by rw[<-hA];exact Nat.mod_lt _ (by omega)
   have cG:B<n:=by rw[<-hB];exact Nat.mod_lt _ (by omega)
   have v1:IntKind.i64.wrap (P:Int)=(P:Nat):=IntWalk.i64_in _ (by omega);have v2:IntKind.i64.wrap (Q:Int)=(Q:Nat):=IntWalk.i64_in _ (by omega);have v3:IntKind.i64.wrap (A:Int)=(A:Nat):=IntWalk.i64_in _ (by omega);have v4:IntKind.i64.wrap (B:Int)=(B:Nat):=IntWalk.i64_in _ (by omega);have I:=Kh (show Oa n u v s=((Nat.gcd s n==1)&&(decide (A<u)||(decide (A=u)&&decide (B<v))))by unfold Oa;rw[hP,hQ,hA,hB])
   have U:=Kh (show Oa n u v s=true->Fi n (u*n+v)=false from λh=>by
    cases hp:Fi n (u*n+v)with
    | false=>rfl
    | true=>have:=bA.1.2 hp s hs hlt;rw[h]at this;cases this)
   have V:=Kh (show Oa n u v s=false->∀t,2<=t->t<s+1->Oa n u v t=false from λh t J Z=>by
    rcases Nat.eq_or_lt_of_le (Nat.lt_succ_iff.1 Z)with rfl|h3
    ·exact h
    ·exact HL.1 t J h3)
   clear hP hQ hA hB;go_wp2_with fail
   refine(Nu s n (w.drewN m) (by omega) (by omega) (by omega) (by omega)).mono ?_;rintro e w1 ⟨rfl,m1,rfl⟩;have Y:Int.gcd (s:Int) (n:Int)=Nat.gcd s n:=rfl;rw[Y,L7];by_cases hg:Nat.gcd s n=1
   ·have cB:(((Nat.gcd s n:Nat):Int)==1)=true:=by rw[hg];rfl
    have bB:(Nat.gcd s n==1)=true:=by rw[hg];rfl
    rw[bB,Bool.true_and]at I;clear hg bB Y;rcases Nat.lt_trichotomy A u with J|J|J
    ·have Z:(A:Int)<(u:Int):=by omega
     have O:=Kh (U.1 (by rw[I.1];simp[J]));go_wp2;go_ret;exact⟨C7 (by rw[O.1]),_,rfl⟩
    ·have Z:((A:Int)==(u:Int))=true:=by rw[J];simp
     have h3:¬((A:Int)<(u:Int)):=by omega
     by_cases h4:B<v
     ·have h5:(B:Int)<(v:Int):=by omega
      have O:=Kh (U.1 (by rw[I.1];simp[J,h4]));clear J;go_wp2;go_ret;exact⟨C7 (by rw[O.1]),_,rfl⟩
     ·have h5:¬((B:Int)<(v:Int)):=by omega
      have O:=Kh (V.1 (by rw[I.1];simp[J,h4]));clear J;go_wp2;all_goals try(exfalso;omega)
      all_goals go_roundw
      all_goals first
       | exact⟨s+1,by omega,by omega,by go_num,O.1,_,rfl⟩
       |(simp[intOf];omega)
    ·have Z:((A:Int)==(u:Int))=false:=by simp;omega
     have h3:¬((A:Int)<(u:Int)):=by omega
     have O:=Kh (V.1 (by
      rw[I.1];have h4:¬A<u:=by omega
      have h5:¬A=u:=by omega
      simp[h4,h5]))
     go_wp2;go_roundw
     case rel=>exact⟨s+1,by omega,by omega,by go_num,O.1,_,rfl⟩
     case measure=>simp[intOf];omega
   ·have cB:(((Nat.gcd s n:Nat):Int)==1)=false:=by simp;omega
    have O:=Kh (V.1 (by
     rw[I.1];have h4:(Nat.gcd s n==1)=false:=by simpa using hg
     rw[h4];rfl))
    clear hg Y;go_wp2;go_roundw
    case rel=>exact⟨s+1,by omega,by omega,by go_num,O.1,_,rfl⟩
    case measure=>simp[intOf];omega
  ·have O:=Kh (show Fi n (u*n+v)=true from bA.1.1 (λt J Z=>HL.1 t J (by omega)))
   go_wp2;go_ret;exact⟨C7 (by rw[O.1]),_,rfl⟩
theorem bK (n:Nat) (w:World) (I:0<n) (hn:n<=120):
  Calls prog 183 #[.int .i64 n] w λe w'=>e=.returned (.int .i64 0)/\w'=w:=by
 go_enter func183,ntmps183
 go_wp2;all_goals try(exfalso;omega)
 all_goals go_ret
 all_goals exact⟨rfl,rfl⟩
theorem Wv (n:Nat) (w:World) (h0:0<n) (hn:n<=120):
  Calls prog 141 #[.int .i64 n] w λe w'=>(∃v,e=.returned (.tuple #[v,.int .i64 0])/\OwnPt n (pts n (n*n)) w' w.heap.size v)/\Below w.heap.size w w':=by
 have HN:=Kh (OwnPt.nil n w w.heap.size);go_enter func141,ntmps141
 go_wp2_with fail
 refine(bK n w h0 hn).mono ?_;rintro e w1 ⟨rfl,hw⟩;rw[hw];clear hw;go_wp2_with fail
 go_loopw [5,6] (λo x wr=>∃u:Nat,u<=n/\x=.int .i64 u/\OwnPt n (pts n (u*n)) wr w.heap.size o/\Below w.heap.size w wr) (λ_ x _=>n - (intOf x).toNat)
 case atStart=>exact⟨0,Nat.zero_le _,rfl,by rw[Nat.zero_mul];exact HN.1,Below.refl _ _⟩
 case round=>
  obtain⟨u,hu,rfl,V,hb⟩:=hrel;have cA:=Kh V;have HB:=Kh hb;clear V hb;by_cases hlt:u<n
  ·have hQ:(u:Int)<(n:Int):=by omega
   have cX:=Kh (show OwnPt n (pts n (u*n+0)) wr w.heap.size u5 from cA.1);go_wp2_with fail
   obtain⟨w2,rfl⟩:∃w2:World,w2=wr:=⟨_,rfl⟩
   go_loopw [5,7] (λo x wr=>∃v:Nat,v<=n/\x=.int .i64 v/\OwnPt n (pts n (u*n+v)) wr w.heap.size o/\Below w.heap.size w wr) (λ_ x _=>n - (intOf x).toNat)
   case atStart=>exact⟨0,Nat.zero_le _,rfl,cX.1,HB.1⟩
   case round=>
    obtain⟨v,hv,rfl,V,hb⟩:=hrel;obtain⟨w3,rfl⟩:∃w3:World,w3=wr:=⟨_,rfl⟩
    have I:=Kh V;have Y:=Kh hb;clear V hb cX cA HB;by_cases hltv:v<n
    ·have hR:(v:Int)<(n:Int):=by omega
     obtain⟨k,hk⟩:∃k,u*n+v=k:=⟨_,rfl⟩
     have gA:k<n*n:=by
      have:(u+1)*n<=n*n:=Nat.mul_le_mul_right _ hlt;rw[Nat.add_mul,Nat.one_mul]at this;omega
     have cC:k / n=u:=by rw[<-hk,Nat.mul_comm,Nat.mul_add_div h0,Nat.div_eq_of_lt hltv,Nat.add_zero]
     have cD:k % n=v:=by rw[<-hk,Nat.mul_comm,Nat.mul_add_mod,Nat.mod_eq_of_lt hltv]
     have cB:=Kh (Qj h0 gA);have aX:=Kh (show E6 n k=(Nat.gcd (Nat.gcd u v) n==1)by unfold E6;rw[cC,cD]);have hD:=Kh (show Oq n k=[.int .i64 (u:Int),.int .i64 (v:Int),.int .i64 1]by unfold Oq;rw[cC,cD]);have cG:=Kh (show(pts n k).length<=14400 from nS (Cj n k) (by have:n*n<=120*120:=Nat.mul_le_mul hn hn;omega));have gU:=Kh (show ∀W,Calls prog 185 #[.int .i64 n,.int .i64 u,.int .i64 v] W λe w'=>e=.returned (.bool (Fi n k))/\∃m,w'=W.drewN m from λW=>hk▸Uw n u v W hlt hltv (by omega));have bY:=Kh (show u*n+(v+1)=k+1 by omega);rw[hk]at I;clear gA cC cD hk;go_wp2_with fail
     refine(Nu u v w3 (by omega) (by omega) (by omega) (by omega)).mono ?_;rintro e w4 ⟨rfl,m1,rfl⟩;have O:Int.gcd (u:Int) (v:Int)=Nat.gcd u v:=rfl;obtain⟨G,hG⟩:∃G,Nat.gcd u v=G:=⟨_,rfl⟩
     have hP:G<=1000:=by
      rw[<-hG];rcases Nat.eq_zero_or_pos u with h|h
      ·subst h;rw[Nat.gcd_zero_left];omega
      ·exact nS (Nat.gcd_le_left _ h) (by omega)
     rw[O,hG];rw[hG]at aX;clear O hG;go_wp2_with fail
     refine(Nu G n _ (by omega) (by omega) (by omega) (by omega)).mono ?_;rintro e w4 ⟨rfl,m2,rfl⟩;have O:Int.gcd (G:Int) (n:Int)=Nat.gcd G n:=rfl;rw[O,L7];clear O;cases hg:(Nat.gcd G n==1)with
     | false=>
      have hH:(((Nat.gcd G n:Nat):Int)==1)=false:=by
       simp only[beq_eq_false_iff_ne]at hg;simp;omega
      have HE:=Kh (show pts n (k+1)=pts n k by rw[cB.1,aX.1,hg,Bool.false_and,if_neg (by decide)]);have Z:=Kh (I.1.keep (Aa (Below.refl _ w3) (m1+m2)));have J:=Kh (Aa Y.1 (m1+m2));clear hg;go_wp2;go_roundw
      case rel=>exact⟨v+1,by omega,by go_num,by rw[bY.1,HE.1];exact Z.1,J.1⟩
      case measure=>simp[intOf];omega
     | true=>
      have hH:(((Nat.gcd G n:Nat):Int)==1)=true:=by
       simp only[beq_iff_eq]at hg;rw[hg];rfl
      have dC:=Kh (show E6 n k=true by rw[aX.1,hg]);clear hg aX;go_wp2_with fail
      refine(gU.1 _).mono ?_;rintro e w4 ⟨rfl,m3,rfl⟩;rw[L7];obtain⟨w5,bB⟩:∃w5,w3.drewN (m1+m2+m3)=w5:=⟨_,rfl⟩
      have Z:=Kh (bB▸I.1.keep (Aa (Below.refl _ w3) (m1+m2+m3)));have J:=Kh (bB▸Aa Y.1 (m1+m2+m3));rw[bB];clear bB I Y;cases hl:Fi n k with
      | false=>
       have HE:=Kh (show pts n (k+1)=pts n k by rw[cB.1,hl,Bool.and_false,if_neg (by decide)]);clear hl;go_wp2;go_roundw
       case rel=>exact⟨v+1,by omega,by go_num,by rw[bY.1,HE.1];exact Z.1,J.1⟩
       case measure=>simp[intOf];omega
      | true=>
       have HE:=Kh (show pts n (k+1)=pts n k++[k]by rw[cB.1,hl,dC.1];rfl);have cT:=Kh (show OwnK NotU32 w5 w.heap.size 213 3 u5 (pts n k).length ((pts n k).flatMap (Oq n))from Z.1);clear hl;go_wp2_with (at_builtin;refine B9 NotU32 rfl (.tmp 35) (.tmp 39) _ 213 rfl underlying159 Zx rfl (by decide) w.heap.size (pts n k).length u5 ((pts n k).flatMap (Oq n)) [.int .i64 (u:Int),.int .i64 (v:Int),.int .i64 1] rfl cT.1 rfl rfl (by intro u hu;simp at hu;rcases hu with rfl|rfl|rfl <;> rfl) (by have:=cG.1;omega) (by have:=cG.1;omega) J.1.size (by intro u hu;simp at hu;rcases hu with rfl|rfl|rfl <;> exact λ_ h=>by cases h) (by intro u hu;simp[Value.cells]at hu;rcases hu with rfl|rfl|rfl <;> exact λ_ h=>by cases h) ?_;intro v9 w9 U bC dE;have hB:=Kh (show OwnPt n (pts n k++[k]) w9 w.heap.size v9 from OwnPt.push (by rw[hD.1];exact U));have gS:=Kh (A7 J.1 cT.1.1 bC (nR _) J.1.size);clear U bC dE)
       go_roundw
       case rel=>exact⟨v+1,by omega,by go_num,by rw[bY.1,HE.1];exact hB.1,gS.1⟩
       case measure=>simp[intOf];omega
    ·obtain rfl:n=v:=by omega
     have HE:=Kh (show u*n+n=(u+1)*n by rw[Nat.add_mul,Nat.one_mul]);go_wp2;go_roundw
     case rel=>exact⟨u+1,by omega,by go_num,by rw[<-HE.1];exact I.1,Y.1⟩
     case measure=>simp[intOf];omega
  ·obtain rfl:n=u:=by omega
   go_wp2
   (first|go_ret2|go_ret)
   exact⟨⟨_,rfl,cA.1⟩,HB.1⟩
theorem bP (n:Nat) (w:World) (U:0<n) (hn:n<=120):
  Calls prog 90 #[.int .i64 n] w λe w'=>e=.returned (.int .i64 ((pts n (n*n)).length:Int))/\Below w.heap.size w w':=by
 go_enter func90,ntmps90
 go_wp2_with fail
 refine(Wv n w U hn).mono ?_;rintro e V ⟨⟨v,rfl,I⟩,J⟩;obtain⟨p,c,rfl⟩:=Ba I.1;have O:=Kh J;clear I J;go_wp2;go_ret;exact⟨rfl,O.1⟩
theorem Av {N k D:Int} (h:Pl.check N k D=0):1<=N/\N<=120/\2<=k/\k<=24/\-120<=D/\D<=120:=by
 by_cases hr:N<1∨120<N∨k<2∨24<k∨D < -120∨120<D
 ·rw[Fz hr]at h;cases h
 ·omega
theorem Uo (n wt:Nat) (D:Int) (w:World) (V:Pl.check n ((wt:Int)+2) D=0):
  Calls prog 46 #[.agg #[.int .i64 n,.int .i64 ((wt:Int)+2),.int .i64 D]] w λe w'=>e=.returned (.tuple #[.int .i64 (((wt+1)*(pts n (n*n)).length:Nat):Int),.int .i64 0])/\Below w.heap.size w w':=by
 obtain⟨h1,h2,h3,h4,h5,h6⟩:=Av V;have aX:=Kh (λW=>bP n W (by omega) (by omega));have bE:(pts n (n*n)).length<=14400:=nS (Cj n (n*n)) (by have:n*n<=120*120:=Nat.mul_le_mul (by omega) (by omega);omega);obtain⟨P,hP⟩:∃P,(pts n (n*n)).length=P:=⟨_,rfl⟩
 rw[hP]at aX bE ⊢;obtain⟨C,hC⟩:∃C,(wt+1)*P=C:=⟨_,rfl⟩
 have gA:C<=331200:=by rw[<-hC];exact Nat.mul_le_mul (by omega:wt+1<=23) bE
 obtain⟨W1,bB⟩:∃x,wt+1=x:=⟨_,rfl⟩
 have v0:IntKind.i64.wrap ((wt:Int)+2 - 1)=(W1:Nat):=by rw[show(wt:Int)+2 - 1=(W1:Nat)by omega];exact IntWalk.i64_in _ (by omega)
 have e1:(W1:Int)*(P:Int)=(C:Nat):=by rw[<-hC,<-bB];push_cast;rfl
 have v1:IntKind.i64.wrap (C:Int)=(C:Nat):=IntWalk.i64_in _ (by omega);rw[hC];have cD:=Kh V;clear V hP hC bB;go_enter func46,ntmps46
 go_wp2_with fail
 obtain⟨w0,bY,X0,O⟩:=bx1 w #[.int .i64 n,.int .i64 ((wt:Int)+2),.int .i64 D] 23;rw[bY];refine(Mh n ((wt:Int)+2) D w0).mono ?_;rintro e I ⟨rfl,U⟩;rw[cD.1];have J:=Kh (X0.below_ U X0.lt);have h:=Kh (O.trans (U.mono O.size));obtain⟨gs,Y⟩:∃x,w.heap.size=x:=⟨_,rfl⟩
 rw[Y]at J ⊢;have x0:=J.1.at_ 0 rfl;have x1:=J.1.at_ 1 rfl;have eP:=Kh Y;clear bY X0 O U Y;have bA:=Kh (show ∀Z,Below I.heap.size I Z->(Z.cell? ⟨gs,0,none⟩=some (.int .i64 (n:Int))/\Z.cell? ⟨gs,1,none⟩=some (.int .i64 ((wt:Int)+2)))from λZ hb=>⟨cell_next hb x0,cell_next hb x1⟩);have cX:=bA.1 _ (Below.refl _ I).drew;have cF:=Kh (show ∀wb,Below I.drew.heap.size I.drew wb->Below I.heap.size I wb from λwb hb=>(Below.refl _ I).drew.trans hb);go_upto_region 4 with(fail)
 go_region_held3 (λZ=>Z.cell? ⟨gs,0,none⟩=some (.int .i64 (n:Int))/\Z.cell? ⟨gs,1,none⟩=some (.int .i64 ((wt:Int)+2)))
  (first|with_reducible exact cX|with_reducible exact bA.1 _ bC |(exfalso;assumption))
  (first
   |(go_at_call 90;with_reducible refine(aX.1 _).mono ?_;rintro e w5 ⟨rfl,dC⟩;have bC:Below I.heap.size I w5:=cF.1 _ dC))
 all_goals have cC:=Kh bC
 all_goals go_wp2
 all_goals (first|go_ret2|go_ret)
 all_goals exact⟨rfl,h.1.trans (cC.1.mono h.1.size)⟩
theorem L3 (N k D:Int) (w:World) (U:Pl.check N k D≠0):
  Calls prog 46 #[.agg #[.int .i64 N,.int .i64 k,.int .i64 D]] w λe w'=>e=.returned (.tuple #[.int .i64 0,.int .i64 (Pl.check N k D)])/\Below w.heap.size w w':=by
 obtain⟨Z,J⟩:∃Z,Pl.check N k D=Z:=⟨_,rfl⟩
 have Y:=Kh J;rw[J]at U ⊢;clear J;go_enter func46,ntmps46
 go_wp2_with fail
 obtain⟨w0,V,X0,I⟩:=bx1 w #[.int .i64 N,.int .i64 k,.int .i64 D] 23;rw[V];refine(Mh N k D w0).mono ?_;rintro e w1 ⟨rfl,O⟩;have h:=Kh (I.trans (O.mono I.size));rw[Y.1];have bA:(Z != 0)=true:=by simpa using U
 clear V X0 I O;go_wp2
 (first|go_ret2|go_ret)
 exact⟨rfl,h.1⟩
theorem bN (n wt:Nat) (D:Int) (w:World) (U:Pl.check n ((wt:Int)+2) D=0):
  Calls prog 10 #[.agg #[.int .i64 n,.int .i64 ((wt:Int)+2),.int .i64 D]] w λe w'=>e=.returned (.bool (decide (72<(wt+1)*(pts n (n*n)).length)))/\Below w.heap.size w w':=by
 have J:=Kh (λW=>Uo n wt D W U);obtain⟨C,Y⟩:∃C,(wt+1)*(pts n (n*n)).length=C:=⟨_,rfl⟩
 rw[Y]at J ⊢;clear U Y;go_enter func10,ntmps10
 go_wp2_with fail
 have I:Below w.heap.size w (w.alloc (.cells #[.int .i64 n,.int .i64 ((wt:Int)+2),.int .i64 D] 23)):=(Below.refl _ _).alloc (nR _) _;refine(J.1 _).mono ?_;rintro e w1 ⟨rfl,O⟩;have V:=Kh (I.trans (O.mono I.size));clear I O;by_cases h:72<C
 ·have Z:(72:Int)<(C:Int):=by omega
  go_wp2;go_ret;exact⟨C7 (by simp[h]),V.1⟩
 ·have Z:¬((72:Int)<(C:Int)):=by omega
  go_wp2;go_ret;exact⟨C7 (by simp;omega),V.1⟩
theorem O7 (N k D:Int) (w:World) (J:Pl.check N k D≠0):
  Calls prog 10 #[.agg #[.int .i64 N,.int .i64 k,.int .i64 D]] w λe w'=>e=.returned (.bool false)/\Below w.heap.size w w':=by
 have U:=Kh (λW=>L3 N k D W J);have Y:(Pl.check N k D==0)=false:=by simpa using J
 clear J;go_enter func10,ntmps10
 go_wp2_with fail
 have I:Below w.heap.size w (w.alloc (.cells #[.int .i64 N,.int .i64 k,.int .i64 D] 23)):=(Below.refl _ _).alloc (nR _) _;refine(U.1 _).mono ?_;rintro e Z ⟨rfl,O⟩;have V:=Kh (I.trans (O.mono I.size));clear I O;go_wp2;go_ret;exact⟨rfl,V.1⟩
end
section
open Go.RowKit Eli Tryz
theorem Yr (D:Int) (l:Nat):Pl.kroP D l=0∨Pl.kroP D l=1∨Pl.kroP D l=-1:=by
 have h:-1<=Pl.kroP D l/\Pl.kroP D l<=1:=by
  unfold Pl.kroP;dsimp only;split
  ·omega
  ·have h:=Rx (l / 2 ^ Lib.ctz 64 l+1) (D % (l / 2 ^ Lib.ctz 64 l:Nat)).toNat (l / 2 ^ Lib.ctz 64 l) 1 (.inl rfl)
   split <;> omega
 omega
def Ji (n wt:Nat) (D:Int) (p:Nat):Int:=Lj n wt D (p / ((wt+1)*(pts n (n*n)).length)) (p % ((wt+1)*(pts n (n*n)).length))
def cntF (n wt:Nat):Nat:=(wt+1)*(pts n (n*n)).length
def C9 (n wt:Nat) (D:Int):Nat->List (Nat×Rat):=elim (cntF n wt) (Ce (cntF n wt) (Ji n wt D)) (2*cntF n wt)
theorem Fm {n wt:Nat} {D:Int} (I:wt<=22) (p:Nat):(Ji n wt D p).natAbs<=16777216:=Sc (Gb (Yr D) n) I _ _
theorem Hs {n wt:Nat} {D:Int} (I:wt<=22):Eli.Good (cntF n wt) 16777216 (C9 n wt D):=Eli.Good.elim (by omega) (Df (Fm I)) (D1 _ _) _
theorem Ev {n:Nat} (hn:0<n):0<(pts n (n*n)).length:=by
 have I:∀a,a<n*n->E6 n a=true->Fi n a=true->0<(pts n (n*n)).length:=by
  intro a J O U;refine List.length_pos_of_mem (a:=a) ?_;rw[Ci hn _ (nR _),List.mem_filter];exact⟨List.mem_range.2 J,by rw[O,U];rfl⟩
 rcases Nat.eq_or_lt_of_le (show 1<=n from hn)with rfl|h
 ·exact I 0 (by omega) (by decide) (by decide)
 ·have J:1<n*n:=nT h (Nat.le_mul_of_pos_left n hn)
  have Y:1 / n=0:=Nat.div_eq_of_lt h;have Z:1 % n=1:=Nat.mod_eq_of_lt h;refine I 1 J ?_ ?_
  ·unfold E6;rw[Y,Z];simp
  ·rw[Cz]
   intro s O U V
   have h5:s≠n:=λe=>by
    subst e;unfold pun at V;simp only[beq_iff_eq,Nat.gcd_self]at V;omega
   unfold Az;rw[Y,Z,Nat.mul_zero,Nat.zero_mod,Nat.zero_mul,Nat.zero_add,Nat.mul_one,Nat.mod_eq_of_lt (by omega)];exact O
theorem Po {n wt:Nat} (hn:0<n):0<cntF n wt:=Nat.mul_pos (by omega) (Ev hn)
theorem eX (n wt:Nat) (D:Int) (w:World) (O:Tab w) (I:Pl.check n ((wt:Int)+2) D=0) (J:cntF n wt<=72):
  Calls prog 11 #[.agg #[.int .i64 n,.int .i64 ((wt:Int)+2),.int .i64 D]] w λe w'=>(∃M,e=.returned (.tuple #[.pointer (some ⟨M,0,none⟩),.int .i64 0])/\(w.heap.size<=M/\∀v g,w'.cell? ⟨M,3,none⟩=some v->v.ownBlock=some g->w.heap.size<=g)/\ModAt w' M w'.heap.size n ((wt:Int)+2) D (frs (C9 n wt D) (cntF n wt)) (cntF n wt) (B5 (C9 n wt D) (cntF n wt) (cntF n wt)))/\Below w.heap.size w w':=by
 obtain⟨Y,Z,h,h4,h5,h6⟩:=Av I;exact Wy n ((wt:Int)+2) D (2*cntF n wt) (cntF n wt) (Ji n wt D) w (λV U=>Km n wt D (pts n (n*n)) (cntF n wt) V (O.below U) (by omega) (by omega) (by omega) (by omega) (by omega) I (Yr D) rfl rfl (Po (by omega)) J) (by omega) (Po (by omega)) J (Fm (by omega))
theorem Kv {n wt:Nat} {D:Int} (Y:wt<=22) (O:cntF n wt<=72) {j f:Nat} (V:j<cntF n wt) (U:f∈frs (C9 n wt D) (cntF n wt)):hq (B5 (C9 n wt D) (cntF n wt) (cntF n wt) j f)<=80:=by
 obtain⟨I,J⟩:=Ht.1 U;exact nS (Pr (by omega) (Hs Y) (by omega) (nR _) V I J) (Om O (nR _))
theorem Jf (N k D:Int) (w:World) (J:Pl.check N k D≠0):
  Calls prog 47 #[.agg #[.int .i64 N,.int .i64 k,.int .i64 D]] w λe w'=>e=.returned (.tuple #[.agg #[.int .i64 0,.int .i64 0,.slice none 0 0],.int .i64 (Pl.check N k D)])/\Below w.heap.size w w':=by
 have U:=Kh (λW=>Pd N k D W J);obtain⟨er,bA⟩:∃er,Pl.check N k D=er:=⟨_,rfl⟩
 rw[bA]at J U ⊢;have cF:(er != 0)=true:=by simpa using J
 clear bA J;go_enter func47,ntmps47
 go_wp2_with fail
 obtain⟨w0,bB,X0,X1,Z⟩:=bx2 w #[.int .i64 N,.int .i64 k,.int .i64 D] 23 #[.int .i64 0,.int .i64 0,.slice none 0 0] 99;rw[bB];refine(U.1 w0).mono ?_;rintro e w1 ⟨rfl,h⟩;have I:=Kh (X1.below_ h X1.lt);have bC:=Kh (Z.trans (h.mono Z.size));obtain⟨Y,aX⟩:∃x,w.heap.size+1=x:=⟨_,rfl⟩
 have V:=Kh aX;rw[aX]at I ⊢;have r0:=I.1.at_ 0 rfl;have r1:=I.1.at_ 1 rfl;have r2:=I.1.at_ 2 rfl;have f0:=I.1.free_ 0;have f1:=I.1.free_ 1;have f2:=I.1.free_ 2;have O:=Kh (A9 (w:=w1) (R:=Y) (v0:=.int .i64 0) (v1:=.int .i64 0) (v2:=.slice none 0 0) (by rw[r0];rfl) (by rw[r1];rfl) (by rw[r2];rfl));clear bB X0 X1 Z h aX U;go_wp2;have e0:=O.1.1;have e1:=O.1.2.1;have e2:=O.1.2.2;try simp only[Exit.inBlock,Exit.then]
 refine bodyPost_ret (by simp[results,results47,go_sem,e0,e1,e2];try rfl) rfl ?_;exact⟨rfl,((bC.1.setCell (p:=⟨Y,0,none⟩) (by have:=V.1;show w.heap.size<=Y;omega) _).setCell (p:=⟨Y,1,none⟩) (by have:=V.1;show w.heap.size<=Y;omega) _).setCell (p:=⟨Y,2,none⟩) (by have:=V.1;show w.heap.size<=Y;omega) _⟩
theorem O8 (N k D:Int) (w:World) (I:Pl.check N k D≠0):
  Calls prog 11 #[.agg #[.int .i64 N,.int .i64 k,.int .i64 D]] w λe w'=>e=.returned (.tuple #[.pointer none,.int .i64 (Pl.check N k D)])/\Below w.heap.size w w':=
 Up N k D (Pl.check N k D) w (λJ _=>(Jf N k D J I).mono (λ_ _ h=>⟨⟨0,0,h.1⟩,h.2⟩)) I
end
section
open Go.RowKit Tryz
theorem Wz (n wt:Nat) (D:Int) (i:Nat) (u v:Int) (w:World) (hT:Tab w) (cA:Pl.check n ((wt:Int)+2) D=0) (hi:i<=wt) (hs:(Al n D u v).2≠0):
  Calls prog 115 #[.agg #[.int .i64 n,.int .i64 ((wt:Int)+2),.int .i64 D],.agg #[.int .i64 i,.int .i64 u,.int .i64 v]] w λe w'=>e=.returned (.tuple #[.int .i64 ((i*(pts n (n*n)).length+(Al n D u v).1:Nat):Int),.int .i64 (Al n D u v).2,.int .i64 0])/\Below w.heap.size w w':=by
 obtain⟨h1,h2,h3,h4,h5,h6⟩:=Av cA;have eP:(pts n (n*n)).length<=14400:=nS (Cj n (n*n)) (by have:n*n<=120*120:=Nat.mul_le_mul (by omega) (by omega);omega);have V:=Kh (λW (hb:Below w.heap.size w W)=>Ha n wt D W (hT.below hb) (by omega) (by omega) (by omega) (by omega) (by omega) cA);have U:=Kh (λT B W h hB=>eY T B n wt (pts n (n*n)) (Bk n D (pts n (n*n)) n) u v W h hB (by omega) (by omega))
 have bE:=Kh (show(Al n D u v).1<(pts n (n*n)).length from by
  rcases Gb (Yr D) n ((u % n).toNat*n+(v % n).toNat)with h|h
  ·exact absurd (by unfold Al;rw[h]) hs
  ·exact h.1)
 obtain⟨pc,cB⟩:∃p,Al n D u v=p:=⟨_,rfl⟩
 have bC:Bk n D (pts n (n*n)) n ((u % n).toNat*n+(v % n).toNat)=pc:=cB;rw[bC]at U;rw[cB]at hs bE ⊢;obtain⟨L,hL⟩:∃L,pts n (n*n)=L:=⟨_,rfl⟩
 rw[hL]at V U bE eP ⊢;obtain⟨f,hf⟩:∃f,Bk n D L n=f:=⟨_,rfl⟩
 rw[hf]at V U;have mE:wt<=22:=by omega
 have mD:(pc.2==0)=false:=by rw[beq_eq_false_iff_ne];exact hs
 obtain⟨iL,bB⟩:∃x,i*L.length=x:=⟨_,rfl⟩
 have e1:(i:Int)*(L.length:Int)=(iL:Nat):=by rw[<-bB];push_cast;rfl
 have Z:iL<=22*14400:=by rw[<-bB];exact Nat.mul_le_mul (by omega) eP
 have mC:pc.1<14400:=by have:=bE.1;omega
 rw[bB];have HS:=Kh hs;clear hT cA h1 h2 h3 h4 h5 h6 hs cB bC hL hf bB;have hH:¬((i:Int)<0):=by omega
 have mA:decide ((i:Int)<0)=false:=decide_eq_false hH;have hI:¬((wt:Int)<(i:Int)):=by omega
 have mB:decide ((wt:Int)<(i:Int))=false:=decide_eq_false hI;go_enter func115,ntmps115
 go_wp2_with fail
 obtain⟨w0,gF,_,XB,Y⟩:=bx2 w #[.int .i64 n,.int .i64 ((wt:Int)+2),.int .i64 D] 23 #[.int .i64 i,.int .i64 u,.int .i64 v] 180;rw[gF];refine(V.1 w0 Y).mono ?_;rintro e w1 ⟨⟨T,rfl,cC⟩,Z⟩;have O:=XB.below_ Z XB.lt;have x0:=O.at_ 0 rfl;have x1:=O.at_ 1 rfl;have x2:=O.at_ 2 rfl;have t1:=cC.c1;have dC:=Kh cC;have dE:=Kh O;have cD:=Kh (Y.trans (Z.mono Y.size));clear gF XB Y Z cC O V;go_upto_region 4 with(fail)
 go_quiet (fail)
 have I:Below w1.heap.size w1 (w1.drewN nq):=Aa (Below.refl _ _) nq;generalize w1.drewN nq=w2 at I ⊢;have bY:=Kh (dC.1.keep (nR _) I);have J:=Kh (bk dE I);have cF:=bt cD I;have cT:=Kh I.size;clear x0 x1 x2 t1 I dE cD dC;have x0:=J.1.at_ 0 rfl;have x1:=J.1.at_ 1 rfl;have x2:=J.1.at_ 2 rfl;go_wp2_with fail
 refine(U.1 T w1.heap.size w2 bY.1 cT.1).mono ?_;rintro e w3 ⟨rfl,aX⟩;have cX:=Kh (bY.1.keep cT.1 aX);have dY:=Kh (bk J aX);have cG:=bt cF aX;clear x0 x1 x2 aX J cF bY;go_upto_region 7 with(fail)
 obtain⟨w4,gL,X4,bA⟩:=bx1 w3 #[.int .i64 (pc.1:Int),.int .i64 pc.2] 215;rw[gL];have y0:=X4.at_ 0 rfl;have y1:=X4.at_ 1 rfl;have x0:=(bk dY bA).at_ 0 rfl;obtain⟨pl,cl,t2,_⟩:=cX.1.c2;have t2:=cell_next bA t2;have gU:=bt cG bA;clear gL X4 bA dY cG cX;go_upto_region 9 with(fail)
 go_quiet (fail)
 have hD:=Kh (show Below w.heap.size w (w4.drewN nq)from Aa gU.1 nq);go_wp2;go_ret3
 exact⟨by push_cast;rfl,hD.1⟩
def Ak (x y:Int×Int):(Int×Int)×(Int×Int):=if y.1*x.2 - x.1*y.2=1 then((y.1,x.1),(y.2,x.2))else((y.1,-x.1),(y.2,-x.2))
theorem gI (a b c d:Int) (w:World) (ha:-1073741824<=a) (Y:a<=1073741824) (hb:-1073741824<=b) (Z:b<=1073741824) (hc:-1073741824<=c) (aX:c<=1073741824) (hd:-1073741824<=d) (bA:d<=1073741824)
  (O:c*b - a*d=1∨c*b - a*d=-1):
  Calls prog 114 #[.agg #[.int .i64 a,.int .i64 b],.agg #[.int .i64 c,.int .i64 d]] w λe w'=>e=.returned (.tuple #[.agg #[.int .i64 (Ak (a,b) (c,d)).1.1,.int .i64 (Ak (a,b) (c,d)).1.2,.int .i64 (Ak (a,b) (c,d)).2.1,.int .i64 (Ak (a,b) (c,d)).2.2],.bool true])/\Below w.heap.size w w':=by
 have U:=mul_b hc aX hb Z;have V:=mul_b ha Y hd bA;obtain⟨cb,J⟩:∃x,c*b=x:=⟨_,rfl⟩
 obtain⟨ad,I⟩:∃x,a*d=x:=⟨_,rfl⟩
 rcases O with h|h
 ·rw[show Ak (a,b) (c,d)=((c,a),(d,b))by unfold Ak;rw[if_pos h]]
  rw[J]at h U;rw[I]at h V;go_enter func114,ntmps114
  go_wp2;try simp only[Exit.inBlock,Exit.then]
  refine bodyPost_ret (by simp[results,results114,go_sem];try rfl) rfl ?_;exact⟨rfl,((((Below.refl _ w).alloc (nR _) _).alloc (by simp) _).alloc (by simp;omega) _).alloc (by simp;omega) _⟩
 ·rw[show Ak (a,b) (c,d)=((c,-a),(d,-b))by unfold Ak;rw[if_neg (by show ¬(c*b - a*d=1);omega)]]
  rw[J]at h U;rw[I]at h V;go_enter func114,ntmps114
  go_wp2;try simp only[Exit.inBlock,Exit.then]
  refine bodyPost_ret (by simp[results,results114,go_sem];try rfl) rfl ?_;exact⟨rfl,((((Below.refl _ w).alloc (nR _) _).alloc (by simp) _).alloc (by simp;omega) _).alloc (by simp;omega) _⟩
end
section
open Go.RowKit Eli Tryz
def eE (Q:Nat->Rat) (n wt:Nat) (D:Int) (X:Nat->Nat->Rat) (a b:Int×Int) (f i:Nat):Rat:=
 subst Q wt (Ak a b).1.1 (Ak a b).1.2 (Ak a b).2.1 (Ak a b).2.2 (wt+1) i*((Al n D (Ak a b).2.1 (Ak a b).2.2).2:Rat)*X (i*(pts n (n*n)).length+(Al n D (Ak a b).2.1 (Ak a b).2.2).1) f
def V9 (Q:Nat->Rat) (n wt:Nat) (D:Int) (X:Nat->Nat->Rat) (a b:Int×Int) (f i:Nat):Rat:=sumQ (eE Q n wt D X a b f) i
def Ot (Q:Nat->Rat) (n wt:Nat) (D:Int) (X:Nat->Nat->Rat) (ch:List (Int×Int)) (f k:Nat):Rat:=sumQ (λj=>V9 Q n wt D X (ch.getD j (0,0)) (ch.getD (j+1) (0,0)) f (wt+1)) k
theorem Uu (M B n wt:Nat) (D:Int) (F:List Nat) (C:Nat) (X:Nat->Nat->Rat) (ch:List (Int×Int)) (gc oc cc:Nat) (v:Value) (x y:Nat->Int) (w:World) (hT:Tab w) (qJ:Pl.check n ((wt:Int)+2) D=0) (uD:cntF n wt=C) (hF:F.length<=72)
  (hE:ModAt w M B n ((wt:Int)+2) D F C X) (hB:B<=w.heap.size) (hX:∀j f,j<C->f∈F->hq (X j f)<=10000) (hp:QL (λj=>IsB 4000 (x j) (y j)) w v (wt+1)) (oO:gc<w.heap.size) (uN:ch.length<=130)
  (oM:∀k c,ch[k]?=some c->w.cell? ⟨gc,oc+k*2,none⟩=some (.int .i64 c.1)/\w.cell? ⟨gc,oc+k*2+1,none⟩=some (.int .i64 c.2)/\(-1073741824<=c.1/\c.1<=1073741824/\-1073741824<=c.2/\c.2<=1073741824))
  (uQ:∀k a b,ch[k]?=some a->ch[k+1]?=some b->(b.1*a.2 - a.1*b.2=1∨b.1*a.2 - a.1*b.2=-1)/\(Al n D (Ak a b).2.1 (Ak a b).2.2).2≠0):
  Calls prog 66 #[.pointer (some ⟨M,0,none⟩),v,.slice (some ⟨gc,oc,none⟩) ch.length cc] w λe w'=>(∃g,e=.returned (.tuple #[.slice (some ⟨g,0,none⟩) F.length F.length,.int .i64 0])/\w.heap.size<=g/\QRow (λj=>IsQ (Ot (λi=>Rat.divInt (x i) (y i)) n wt D X ch (F.getD j 0) (ch.length - 1))) w' g F.length F.length)/\Below w.heap.size w w':=by
 obtain⟨h1,h2,h3,h4,h5,h6⟩:=Av qJ;have zR:wt<=22:=by omega
 obtain⟨Q,hQ⟩:∃Q:Nat->Rat,(λi=>Rat.divInt (x i) (y i))=Q:=⟨_,rfl⟩
 have HQ:=Kh hQ
 have sG:=Kh (show ∀i,i<wt+1->hq (Q i)<=4000 from λi hi=>by
  obtain⟨_,_,_,_,hr⟩:=hp.resolve_left (λh=>by omega);obtain⟨_,_,_,_,_,_,_,_,_,_,_,_,h5,h6,h7,h8⟩:=hr.2 i hi;rw[<-hQ];exact K7 (by decide) (nS h5.size h7) (nS h6.size h8))
 rw[hQ];have sR:=Kh (λW (I:Below w.heap.size w W)=>Nt M B n ((wt:Int)+2) D F C X W (hE.keep hB I) (nS hB I.size));have pP:=Kh (λW (I:Below w.heap.size w W)=>Wr M B n ((wt:Int)+2) D F C X W (hE.keep hB I));have wH:=Kh (λW a b c d (I:Below w.heap.size w W) (ha:-1073741824<=a) (wX:a<=1073741824) (iL:-1073741824<=b) (wY:b<=1073741824) (hc:-1073741824<=c) (wZ:c<=1073741824) (hd:-1073741824<=d) (xA:d<=1073741824)=>Ph 4000 (by decide) (by decide) v (wt+1) x y a b c d W (hp.keep (λ_=>IsB.solid _ _ _) I) (by omega) (by omega) ha wX iL wY hc wZ hd xA);have vZ:=Kh (λW i u z (I:Below w.heap.size w W) (hi:i<=wt) (hs:(Al n D u z).2≠0)=>Wz n wt D i u z W (hT.below I) qJ hi hs);have sL:=Kh (λW i (I:Below w.heap.size w W) (hi:i<C)=>W4 M B n ((wt:Int)+2) D F C X i W (hE.keep hB I) hi (by omega) (λf hf=>nS (hX i f hi hf) (by omega)))
 have pV:=Kh (show ∀u z,(Al n D u z).2≠0->(Al n D u z).1<(pts n (n*n)).length/\-1<=(Al n D u z).2/\(Al n D u z).2<=1 from λu z hs=>by
  rcases Gb (Yr D) n ((u % n).toNat*n+(z % n).toNat)with h|h
  ·exact absurd (by unfold Al;rw[h]) hs
  ·exact⟨h.1,by unfold Al;omega,by unfold Al;omega⟩)
 have qB:=Kh (show ∀j i,j<C->i<F.length->hq (X j (F.getD i 0))<=10000 from λj i hj hi=>hX j _ hj (by rw[List.getD_eq_getElem?_getD,List.getElem?_eq_getElem hi];exact List.getElem_mem hi));obtain⟨L,hL⟩:∃L,(pts n (n*n)).length=L:=⟨_,rfl⟩
 have HL:=Kh hL;have rX:=Kh (show(wt+1)*L=C by rw[<-uD,<-hL];rfl);rw[hL]at pV;have rW:=Kh (show ∀W,Below w.heap.size w W->∀k c,ch[k]?=some c->W.cell? ⟨gc,oc+k*2,none⟩=some (.int .i64 c.1)/\W.cell? ⟨gc,oc+k*2+1,none⟩=some (.int .i64 c.2)from λW I k c hk=>⟨(I.cell (p:=⟨gc,oc+k*2,none⟩) oO).trans (oM k c hk).1,(I.cell (p:=⟨gc,oc+k*2+1,none⟩) oO).trans (oM k c hk).2.1⟩);have oC:=Kh (show ∀(k:Nat) (c:Int×Int),ch[k]?=some c->-1073741824<=c.1/\c.1<=1073741824/\-1073741824<=c.2/\c.2<=1073741824 from λk c hk=>(oM k c hk).2.2);have sT:=Kh uQ;have yS:=Kh oO
 obtain⟨pv,cv,wT⟩:∃p c,v=.slice p (wt+1) c:=by
  obtain⟨_,_,_,e',_⟩:=hp.resolve_left (λh=>by omega);exact⟨_,_,e'⟩
 obtain⟨J,qF⟩:∃J,F.length=J:=⟨_,rfl⟩
 rw[qF]at hF pP sL qB ⊢
 have sY:=Kh (show ∀k a b i j,ch[k]?=some a->ch[k+1]?=some b->i<wt+1->j<J->hq (eE Q n wt D X a b (F.getD j 0) i)<=140000 from λk a b i j ha I hi hj=>by
  obtain⟨a1,a2,a3,a4⟩:=oC.1 k a ha;obtain⟨b1,b2,b3,b4⟩:=oC.1 (k+1) b I;obtain⟨p1,p2,p3⟩:=pV.1 _ _ (sT.1 k a b ha I).2
  have uM:i*L+(Al n D (Ak a b).2.1 (Ak a b).2.2).1<C:=by
   rw[<-rX.1];have h7:=Nat.mul_le_mul_right L (show i+1<=wt+1 by omega);rw[Nat.succ_mul]at h7;omega
  have zM:hq (subst Q wt (Ak a b).1.1 (Ak a b).1.2 (Ak a b).2.1 (Ak a b).2.2 (wt+1) i)<=123880:=by
   refine Dz (K:=4000) (λq hq=>sG.1 q hq) (Dv ?_ ?_) (Dv ?_ ?_) (Dv ?_ ?_) (Dv ?_ ?_) (by omega) (by omega) <;>(unfold Ak;split <;>(dsimp only;omega))
  have qR:hq (((Al n D (Ak a b).2.1 (Ak a b).2.2).2:Int):Rat)<=1:=by
   rw[Ed];have:nd ((Al n D (Ak a b).2.1 (Ak a b).2.2).2).natAbs<=1:=Bj.2 (by omega);omega
  have zN:=qB.1 _ j uM hj;have h7:=B7 (subst Q wt (Ak a b).1.1 (Ak a b).1.2 (Ak a b).2.1 (Ak a b).2.2 (wt+1) i*((Al n D (Ak a b).2.1 (Ak a b).2.2).2:Rat)) (X (i*L+(Al n D (Ak a b).2.1 (Ak a b).2.2).1) (F.getD j 0));have h8:=B7 (subst Q wt (Ak a b).1.1 (Ak a b).1.2 (Ak a b).2.1 (Ak a b).2.2 (wt+1) i) ((Al n D (Ak a b).2.1 (Ak a b).2.2).2:Rat);unfold eE;rw[HL.1];omega)
 have sS:=Kh (show ∀k a b i j,ch[k]?=some a->ch[k+1]?=some b->i<=wt+1->j<J->hq (V9 Q n wt D X a b (F.getD j 0) i)<=3300000 from λk a b i j ha I hi hj=>by
  have h7:=D2 (eE Q n wt D X a b (F.getD j 0)) 140000 i (λq hq=>sY.1 k a b q j ha I (by omega) hj);have h8:i*(140000+1)<=23*140001:=Nat.mul_le_mul (by omega) (nR _);unfold V9;omega)
 have sC:=Kh (show ∀k j,k+1<=ch.length->j<J->hq (Ot Q n wt D X ch (F.getD j 0) k)<=430000000 from λk j hk hj=>by
  have h7:=D2 (λj'=>V9 Q n wt D X (ch.getD j' (0,0)) (ch.getD (j'+1) (0,0)) (F.getD j 0) (wt+1)) 3300000 k (λq hq=>sS.1 q _ _ (wt+1) j (by rw[List.getD_eq_getElem?_getD,List.getElem?_eq_getElem (show q<ch.length by omega)];rfl) (by rw[List.getD_eq_getElem?_getD,List.getElem?_eq_getElem (show q+1<ch.length by omega)];rfl) (nR _) hj);have h8:k*(3300000+1)<=130*3300001:=Nat.mul_le_mul (by omega) (nR _);unfold Ot;omega)
 subst wT;have yR:=Kh qF;clear hT hE hX hp oM uQ qJ uD oO hQ hL qF h1 h2 h3 h4 h5 h6 hB;obtain⟨K,hK⟩:∃K,ch.length=K:=⟨_,rfl⟩
 have HK:=Kh hK;rw[hK]at uN sC ⊢;clear hK;go_enter func66,ntmps66
 have xD:=Hx J (by omega);go_wp2_with fail
 refine(sR.1 w (Below.refl _ w)).mono ?_;rintro e w1 ⟨rfl,iL⟩;go_wp2_with fail
 obtain⟨w2,qS,X2,uH⟩:=bx1 w1 #[.int .i64 n,.int .i64 ((wt:Int)+2),.int .i64 D] 23;rw[qS];have pY:=Kh (iL.trans (uH.mono iL.size));have qR:w2.heap.size=w1.heap.size+1:=by rw[<-qS];simp
 refine(pP.1 w2 pY.1).mono ?_;rintro e w' ⟨rfl,xH⟩;obtain rfl:w2=w':=xH.symm;go_wp2_with fail
 have oH:=Kh (QRow.made (λ_=>IsQ 0) w2 J);obtain⟨wn,qT⟩:∃wn,w2.alloc (.cells (madeCells #[.bool false,.slice none 0 0,.bool false,.slice none 0 0] (J*4)) 86)=wn:=⟨_,rfl⟩
 have pN:=Kh (show Below w2.heap.size w2 wn from qT▸(Below.refl _ _).alloc (nR _) _);rw[qT]at oH ⊢;obtain⟨g,qK⟩:∃g,w1.heap.size+1=g:=⟨_,rfl⟩
 have hg:w2.heap.size=g:=qR.trans qK;rw[hg]at pN oH;try rw[hg]
 try rw[qK]
 obtain⟨gs,qN⟩:∃gs,w1.heap.size=gs:=⟨_,rfl⟩
 rw[qN]at X2;try rw[qN]
 have tG:=Kh X2;have pR:=Kh hg;have tE:=Kh (show w.heap.size<=g from hg▸pY.1.size);have tD:=Kh (show ∀W,Below g w2 W->Below w.heap.size w W from λW I=>pY.1.trans (I.mono tE.1));have vU:=Kh (show gs<g by omega);clear iL qS X2 uH qR qT qK hg qN xD sR pP;go_loopw [28] (λi wr=>∃k:Nat,k<=J/\i=.int .i64 k/\QRow (λ_=>IsQ 0) wr g J k/\Below g w2 wr) (λi _=>J - (intOf i).toNat)
 case atStart=>exact⟨0,Nat.zero_le _,rfl,oH.1,pN.1⟩
 case round=>
  obtain⟨k,hk,rfl,V,gA⟩:=hrel;obtain⟨wi,rfl⟩:∃wi:World,wi=wr:=⟨_,rfl⟩
  have O:=Kh V;have oE:=Kh gA;have sQ:=Kh (show g<=wi.heap.size from pR.1▸gA.size);clear V gA pN oH;by_cases hlt:k<J
  ·go_wp2_with fail
   refine(En 0 wi (by omega) (by omega)).mono ?_;rintro e w3 ⟨⟨s3,p3,n3,c3,t3,q3,m3,d3,rfl,uO⟩,hH⟩;have cB:=QRow.keep (λ_=>IsQ.solid _) O.1 hH;have wC:=Kh (QRow.set (k':=k+1) (λ_=>IsQ.solid _) cB k hlt (λ_=>IsQ 0) (IsQ.solid _) (λi h1 h2=>⟨by omega,rfl⟩) uO);have hU:=Kh (oE.1.trans (hH.mono sQ.1));obtain⟨u0,zO⟩:=nV (cB.has (k*4) (by omega));obtain⟨u1,zP⟩:=nV (cB.has (k*4+1) (by omega));obtain⟨u2,hu2⟩:=nV (cB.has (k*4+2) (by omega));obtain⟨u3,zQ⟩:=nV (cB.has (k*4+3) (by omega));have f0:=cB.free (k*4) (by omega);have f1:=cB.free (k*4+1) (by omega);have f2:=cB.free (k*4+2) (by omega);have f3:=cB.free (k*4+3) (by omega);clear uO hH cB O oE;go_wp2;go_roundw
   case rel=>exact⟨k+1,by omega,by go_num,wC.1,Bb hU.1⟩
   case measure=>simp[intOf];omega
  ·obtain rfl:J=k:=by omega
   have sO:=Kh (O.1.congr (G:=λj=>IsQ (Ot Q n wt D X ch (F.getD j 0) 0)) (λj _=>rfl));clear O hlt hk;go_wp2;go_loopw [11] (λkk wx=>∃k:Nat,(k=0∨k+1<=K)/\kk=.int .i64 k/\QRow (λj=>IsQ (Ot Q n wt D X ch (F.getD j 0) k)) wx g J J/\Below g w2 wx) (λkk _=>K - (intOf kk).toNat)
   case atStart=>exact⟨0,.inl rfl,rfl,sO.1,oE.1⟩
   case round=>
    obtain⟨k,hk,rfl,V,gA⟩:=hrel;obtain⟨wk,rfl⟩:∃wk:World,wk=wr:=⟨_,rfl⟩
    have O:=Kh V;have vN:=Kh gA;have hW:=Kh (tD.1 wk gA);have wF:=Kh (show g<=wk.heap.size from pR.1▸gA.size);have zH:k<=130:=by omega
    have vW:=Kh hk;clear V gA sO oE sQ hk;by_cases hlt:k+1<K
    ·have xC:(k:Int)+1<(K:Int):=by omega
     have yK:(k:Int)<(K:Int):=by omega
     obtain⟨a,ha⟩:∃a,ch[k]?=some a:=⟨_,List.getElem?_eq_getElem (by rw[HK.1];omega)⟩
     obtain⟨b,I⟩:∃b,ch[k+1]?=some b:=⟨_,List.getElem?_eq_getElem (by rw[HK.1];omega)⟩
     obtain⟨l0,l1⟩:=rW.1 wk hW.1 k a ha;obtain⟨l2,l3⟩:=rW.1 wk hW.1 (k+1) b I;obtain⟨tP,tQ,tR,tS⟩:=oC.1 k a ha;obtain⟨tT,tU,tV,tW⟩:=oC.1 (k+1) b I;obtain⟨uI,gF⟩:=sT.1 k a b ha I;have dY:=Kh (λW=>gI a.1 a.2 b.1 b.2 W tP tQ tR tS tT tU tV tW uI);have sZ:=Kh (λi j (hi:i<wt+1) (hj:j<J)=>sY.1 k a b i j ha I hi hj);have oZ:=Kh (λi j (hi:i<=wt+1) (hj:j<J)=>sS.1 k a b i j ha I hi hj);have oX:=Kh (λj (hj:j<J)=>sC.1 k j (by omega) hj)
     have pU:=Kh (show ∀f,Ot Q n wt D X ch f (k+1)=Ot Q n wt D X ch f k+V9 Q n wt D X a b f (wt+1)from λf=>by
      unfold Ot;rw[sumQ,List.getD_eq_getElem?_getD,ha,List.getD_eq_getElem?_getD,I];rfl)
     have pX:=Kh gF;have oG:=Kh (show(-1073741824<=(Ak a b).1.1/\(Ak a b).1.1<=1073741824)/\(-1073741824<=(Ak a b).1.2/\(Ak a b).1.2<=1073741824)/\(-1073741824<=(Ak a b).2.1/\(Ak a b).2.1<=1073741824)/\(-1073741824<=(Ak a b).2.2/\(Ak a b).2.2<=1073741824)from by unfold Ak;split <;>(dsimp only;omega));obtain⟨T,hT⟩:∃T:Nat->Nat->Rat,(λf i=>eE Q n wt D X a b f i)=T:=⟨_,rfl⟩
     obtain⟨S,hS⟩:∃S:Nat->Nat->Rat,(λf i=>V9 Q n wt D X a b f i)=S:=⟨_,rfl⟩
     obtain⟨A0,hA0⟩:∃A0:Nat->Rat,(λf=>Ot Q n wt D X ch f k)=A0:=⟨_,rfl⟩
     have sV:=Kh (show ∀f i,S f (i+1)=S f i+T f i from λf i=>by rw[<-hS,<-hT];rfl);have sW:=Kh (show ∀f,S f 0=0 from λf=>by rw[<-hS];rfl);have gL:=Kh (show ∀f i,T f i=subst Q wt (Ak a b).1.1 (Ak a b).1.2 (Ak a b).2.1 (Ak a b).2.2 (wt+1) i*((Al n D (Ak a b).2.1 (Ak a b).2.2).2:Rat)*X (i*L+(Al n D (Ak a b).2.1 (Ak a b).2.2).1) f from λf i=>by rw[<-hT,<-HL.1];rfl);have pW:=Kh (show QRow (λj=>IsQ (A0 (F.getD j 0))) wk g J J from O.1.congr (λj _=>by rw[<-hA0]));have pU:=Kh (show ∀f,Ot Q n wt D X ch f (k+1)=A0 f+S f (wt+1)from λf=>by rw[pU.1,<-hA0,<-hS])
     have vJ:=Kh (show ∀i j,i<=wt+1->j<J->hq (A0 (F.getD j 0)+S (F.getD j 0) i)<=440000000 from λi j hi hj=>by
      have h7:=oX.1 j hj;have h8:=oZ.1 i j hi hj;rw[<-hA0,<-hS];have h9:=N5 (Ot Q n wt D X ch (F.getD j 0) k) (V9 Q n wt D X a b (F.getD j 0) i);dsimp only;omega)
     have bB:=Kh (show ∀i,hq (subst Q wt (Ak a b).1.1 (Ak a b).1.2 (Ak a b).2.1 (Ak a b).2.2 (wt+1) i)<=123880 from λi=>by
      obtain⟨⟨m1,m2⟩,⟨m3,m4⟩,⟨m5,m6⟩,m7,m8⟩:=oG.1;exact Dz (K:=4000) (λq hq=>sG.1 q hq) (Dv m1 m2) (Dv m3 m4) (Dv m5 m6) (Dv m7 m8) (by omega) (by omega))
     obtain⟨p1,p2,p3⟩:=pV.1 _ _ gF;obtain⟨MM,uE⟩:∃MM,Ak a b=MM:=⟨_,rfl⟩
     obtain⟨⟨mA,mB⟩,⟨mC,mD⟩⟩:=MM;rw[uE]at dY pX oG gL bB p1 p2 p3;dsimp only at dY pX oG gL bB p1 p2 p3;obtain⟨pc,qP⟩:∃pc,Al n D mC mD=pc:=⟨_,rfl⟩
     have wB:=Kh qP;rw[qP]at gL p1 p2 p3;have wA:=Kh p1;clear ha I uI gF hT hS hA0 tP tQ tR tS tT tU tV tW O uE qP p1 sZ oZ oX;obtain⟨k1,hI⟩:∃k1,k+1=k1:=⟨_,rfl⟩
     rw[hI]at l2 l3;have zI:IntKind.i64.wrap ((k:Int)+1)=(k1:Nat):=by rw[show(k:Int)+1=(k1:Nat)by omega];exact IntWalk.i64_in _ (by omega)
     have yJ:(k1:Int)<(K:Int):=by omega
     have pS:=Kh hI;clear hI;have uJ:g<wk.heap.size:=pW.1.sts.1;go_upto_region 11 with(fail)
     go_cut [12,13]from 43 to 55 (λxV xW wx=>∃gm,xV=.pointer (some ⟨gm,0,none⟩)/\xW=.bool true/\Blk wx gm 63 #[.int .i64 mA,.int .i64 mB,.int .i64 mC,.int .i64 mD]/\g<gm/\Below wk.heap.size wk wx)
     case first=>
      refine jC [12,15] (λW=>W.cell? ⟨gc,oc+k*2,none⟩=some (.int .i64 a.1)/\W.cell? ⟨gc,oc+k*2+1,none⟩=some (.int .i64 a.2)/\W.cell? ⟨gc,oc+k1*2,none⟩=some (.int .i64 b.1)/\W.cell? ⟨gc,oc+k1*2+1,none⟩=some (.int .i64 b.2)) (λW I=>⟨Aq I l0,Aq I l1,Aq I l2,Aq I l3⟩) (λbC hHeld0=>?_);clear l0 l1 l2 l3;refine C8 0 ?_;refine C8 1 ?_;refine C8 2 ?_;refine C8 3 ?_;refine C8 4 ?_;refine C8 5 ?_;refine C8 6 ?_;refine C8 7 ?_;refine C8 8 ?_;refine dW 9 13 rfl rfl (λK hK=>?_) (λK hK=>?_)
      ·focus(go_simp;refine(dY.1 _).mono ?_;rintro e w5 ⟨rfl,cG⟩;have cD:=Kh ((Below.refl _ wk).drew.trans cG:Below wk.heap.size wk w5);clear cG;(first|with_reducible refine hK.out _ _ ?_ (λhHeld1=>?_) |(go_wp2_with fail;with_reducible refine hK.out _ _ ?_ (λhHeld1=>?_))))
       focus((try dsimp only);exact bC.1 _ cD.1)
       focus(clear hK K;(try simp only[Act.put,Bo,Bt,Bp]))
       refine C8 10 ?_;refine C8 11 ?_;refine lG 12 ?_;refine aA 13 rfl (λK hK=>?_);focus(go_simp;refine hK.out _ _ ?_ (λhHeld2=>?_))
       focus((try dsimp only);exact bC.1 _ (cD.1.alloc cD.1.size _))
       focus(clear hK K;(try simp only[Act.put,Bo,Bt,Bp]))
       refine fG 14 rfl (λK hK=>?_);go_simp
       refine hK.out _ _ ?_;clear hK K
       (try simp only[Act.put,Bo,Bt,Bp])
       refine eH 15 ?_;refine fA ?_;go_wp2;go_meet
       exact⟨w5.heap.size,rfl,rfl,Blk.new w5 63 #[.int .i64 mA,.int .i64 mB,.int .i64 mC,.int .i64 mD],by have:=cD.1.size;omega,cD.1.alloc cD.1.size _⟩
      ·focus(go_simp;refine hK.out _ _ ?_ (λhHeld1=>?_))
       focus((try dsimp only);exact bC.1 _ ((Below.refl _ wk).drew.alloc (nR _) _))
       focus(clear hK K;(try simp only[Act.put,Bo,Bt,Bp]))
       refine aA 9 rfl (λK hK=>?_);focus(go_simp;refine(dY.1 _).mono ?_;rintro e w5 ⟨rfl,cG⟩;have cD:=Kh (((Below.refl _ wk).drew.alloc (nR _) _).trans (cG.mono (by simp)):Below wk.heap.size wk w5);have cF:=Kh (show Blk w5 wk.heap.size 63 #[.int .i64 0,.int .i64 0,.int .i64 0,.int .i64 0]from(Blk.new wk.drew 63 #[.int .i64 0,.int .i64 0,.int .i64 0,.int .i64 0]).below_ cG (by simp));clear cG;(first|with_reducible refine hK.out _ _ ?_ (λhHeld2=>?_) |(go_wp2_with fail;with_reducible refine hK.out _ _ ?_ (λhHeld2=>?_))))
       focus((try dsimp only);exact bC.1 _ cD.1)
       focus(clear hK K;(try simp only[Act.put,Bo,Bt,Bp]))
       refine C8 10 ?_;refine C8 11 ?_;refine lG 12 ?_;have n0:=cF.1.at_ 0 rfl;have n1:=cF.1.at_ 1 rfl;have n2:=cF.1.at_ 2 rfl;have n3:=cF.1.at_ 3 rfl;have zT:=cF.1.free_ 0;have zU:=cF.1.free_ 1;have zV:=cF.1.free_ 2;have zW:=cF.1.free_ 3;refine fG 14 rfl (λK hK=>?_);go_simp
       refine hK.out _ _ ?_;clear hK K
       (try simp only[Act.put,Bo,Bt,Bp])
       refine eH 15 ?_;refine fA ?_;go_wp2;go_meet
       exact⟨wk.heap.size,rfl,rfl,(((cF.1.set_ 0 (.int .i64 mA)).set_ 1 (.int .i64 mB)).set_ 2 (.int .i64 mC)).set_ 3 (.int .i64 mD),uJ,(((cD.1.setCell (p:=⟨wk.heap.size,0,none⟩) (nR _) _).setCell (p:=⟨wk.heap.size,1,none⟩) (nR _) _).setCell (p:=⟨wk.heap.size,2,none⟩) (nR _) _).setCell (p:=⟨wk.heap.size,3,none⟩) (nR _) _⟩
     case rest=>
     obtain⟨gm,rfl,rfl,XM,uK,eP⟩:=hcut;obtain⟨w6,rfl⟩:∃w6:World,w6=wc:=⟨_,rfl⟩
     have oF:=Kh eP;have vR:=Kh uK;have hG:=Kh XM;have tA:=Kh (hW.1.trans (oF.1.mono hW.1.size));clear XM eP uK dY l0 l1 l2 l3;have q0:=hG.1.at_ 0 rfl;have q1:=hG.1.at_ 1 rfl;have q2:=hG.1.at_ 2 rfl;have q3:=hG.1.at_ 3 rfl;go_wp2_with fail
     obtain⟨⟨m1,m2⟩,⟨m3,m4⟩,⟨m5,m6⟩,m7,m8⟩:=oG.1;refine(wH.1 w6 mA mB mC mD tA.1 m1 m2 m3 m4 m5 m6 m7 m8).mono ?_;rintro e w7 ⟨⟨gq,rfl,xB,nB⟩,qG⟩;rw[HQ.1,Nat.add_sub_cancel]at nB;obtain⟨SB,oK⟩:∃SB:Nat->Rat,(λi=>subst Q wt mA mB mC mD (wt+1) i)=SB:=⟨_,rfl⟩
     have sU:=Kh (show QRow (λj=>IsQ (SB j)) w7 gq (wt+1) (wt+1)from nB.congr (λj _=>by rw[<-oK]));have gL:=Kh (show ∀f i,T f i=SB i*(pc.2:Rat)*X (i*L+pc.1) f from λf i=>by rw[gL.1,<-oK]);have bB:=Kh (show ∀i,hq (SB i)<=123880 from λi=>by rw[<-oK];exact bB.1 i);have pT:=bt oF qG;have pA:=Kh (bk hG qG);have rV:=Kh (vN.1.trans (pT.1.mono wF.1));have pZ:=Kh (tG.1.below_ (show Below w2.heap.size w2 w7 from by rw[pR.1];exact rV.1) tG.1.lt);have sJ:=Kh (show QRow (λj=>IsQ (A0 (F.getD j 0)+S (F.getD j 0) 0)) w7 g J J from(pW.1.keep (λ_=>IsQ.solid _) pT.1).congr (λj _=>by rw[sW.1,Rat.add_zero]));have vT:=Kh (show g<gq by have:=oF.1.size;omega);have wE:=Kh (show g<=w7.heap.size by have:=pT.1.size;omega);clear xB nB qG oK pW oF hG tA sW q0 q1 q2 q3;go_wp2_with fail
     go_loopw [62] (λii wx=>∃i:Nat,i<=wt+1/\ii=.int .i64 i/\QRow (λj=>IsQ (A0 (F.getD j 0)+S (F.getD j 0) i)) wx g J J/\w7.grownBy wx (some g)/\I32 w7 wx) (λii _=>wt+1 - (intOf ii).toNat)
     case atStart=>exact⟨0,Nat.zero_le _,rfl,sJ.1,Af g (Below.refl _ _),I32.refl _⟩
     case round=>
      obtain⟨i,hi,rfl,V,qM,uC⟩:=hrel;obtain⟨wi,rfl⟩:∃wi:World,wi=wr:=⟨_,rfl⟩
      have O:=Kh V;have dE:=Kh qM;have pM:=Kh uC;have rU:=Kh (Ae rV.1 qM wE.1 (nR _));have tF:=Kh (tD.1 wi rU.1);have zD:g<wi.heap.size:=V.sts.1;clear V qM uC sJ;by_cases hlt:i<wt+1
      ·have zE:(i:Int)<((wt+1:Nat):Int):=by omega
       have yI:(i:Int)<(wt:Int)+1:=by omega
       obtain⟨s1,p1,n1,c1,t1,q1,m1,d1,a0,a1,a2,a3,hx⟩:=(sU.1.i32 (λ_=>IsQ.solid _) pM.1 dE.1 (by have:=vT.1;omega)).val i hlt;have HP:=Kh (show Qs wi s1 p1 n1 c1 t1 q1 m1 d1 (SB i)from hx);have qO:(some gm:Option Nat)≠some g:=λe=>by injection e with e;have:=vR.1;omega
       have oQ:(some gs:Option Nat)≠some g:=λe=>by injection e with e;have:=vU.1;omega
       have c2:=dE.1.cell (pA.1.at_ 2 rfl) qO;have c3:=dE.1.cell (pA.1.at_ 3 rfl) qO;have oS:=dE.1.cell (pZ.1.at_ 0 rfl) oQ;have oT:=dE.1.cell (pZ.1.at_ 1 rfl) oQ;have oU:=dE.1.cell (pZ.1.at_ 2 rfl) oQ;have oY:=Kh (λw1 (I:Below wi.heap.size wi w1)=>Hr s1 p1 n1 c1 t1 q1 m1 d1 (SB i) w1 (HP.1.keep I) (by have:=bB.1 i;omega));clear hx qO oQ;go_wp2_with fail
       refine(oY.1 _ ((Below.refl _ _).alloc (nR _) _)).mono ?_;rintro e w8 ⟨⟨sg,rfl,gF⟩,qH⟩;have bE:=Kh (((Below.refl _ wi).alloc (nR _) (.cells #[.bool s1,.slice p1 n1 c1,.bool t1,.slice q1 m1 d1] 86)).trans (qH.mono (by simp)));have qU:=(Blk.new wi 86 #[.bool s1,.slice p1 n1 c1,.bool t1,.slice q1 m1 d1]).below_ qH (by simp);obtain⟨gb,qL⟩:∃x,wi.heap.size=x:=⟨_,rfl⟩
       have pQ:=Kh qL;rw[qL]at qU ⊢;have tH:=Kh qU;have c2:=cell_next bE.1 c2;have c3:=cell_next bE.1 c3;have oS:=cell_next bE.1 oS;have oT:=cell_next bE.1 oT;have oU:=cell_next bE.1 oU;clear qH oY a0 a1 a2 a3 qU qL;by_cases hz:SB i=0
       ·obtain rfl:sg=0:=gF.2 hz
        have hV:=Kh (QRow.congr (G:=λj=>IsQ (A0 (F.getD j 0)+S (F.getD j 0) (i+1))) (O.1.keep (λ_=>IsQ.solid _) bE.1) (λj _=>by rw[sV.1,gL.1,hz,Rat.zero_mul,Rat.zero_mul,Rat.add_zero]));have vS:=Kh (dE.1.trans (Af g bE.1));have vV:=Kh (pM.1.trans (I32.below bE.1));clear hz gF c2 c3 oS oT oU;go_wp2;go_roundw
        case rel=>exact⟨i+1,by omega,by go_num,hV.1,vS.1,vV.1⟩
        case measure=>simp[intOf];omega
       ·have xG:(sg==0)=false:=by rw[beq_eq_false_iff_ne];exact λe=>hz (gF.1 e)
        obtain⟨ix,oP⟩:∃x,i*L+pc.1=x:=⟨_,rfl⟩
        have sB:=Kh (show ix<C by
         rw[<-oP,<-rX.1];have h7:=Nat.mul_le_mul_right L (show i+1<=wt+1 by omega);have h8:=wA.1;rw[Nat.succ_mul]at h7;omega)
        have sE:=Kh (λW (I:Below w.heap.size w W)=>show Calls prog 115 #[.agg #[.int .i64 n,.int .i64 ((wt:Int)+2),.int .i64 D],.agg #[.int .i64 i,.int .i64 mC,.int .i64 mD]] W λe w'=>e=.returned (.tuple #[.int .i64 (ix:Int),.int .i64 pc.2,.int .i64 0])/\Below W.heap.size W w' from by
         have h:=vZ.1 W i mC mD I (by omega) pX.1;rw[HL.1,wB.1,oP]at h;exact h)
        have sX:=Kh (show ∀f,T f i=SB i*(pc.2:Rat)*X ix f from λf=>by rw[gL.1,oP]);have tB:=Kh (tF.1.trans (bE.1.mono tF.1.size));clear hz gF oP;go_wp2_with fail
        refine(sE.1 w8 tB.1).mono ?_;rintro e w9 ⟨rfl,oL⟩;have tC:=bt tB oL;have rT:=bt bE oL;have qA:=Kh (bk tH oL);clear c2 c3 oS oT oU oL xG tH;go_wp2_with fail
        refine(sL.1 w9 ix tC.1 sB.1).mono ?_;rintro e wd ⟨⟨gx,rfl,uL,uP⟩,qI⟩;have sP:=Kh uP;have dC:=bt rT qI;have aX:=Kh (bk qA qI);have rZ:=Kh (show gb<gx from nT qA.1.lt uL);have y0:=aX.1.at_ 0 rfl;have y1:=aX.1.at_ 1 rfl;have y2:=aX.1.at_ 2 rfl;have y3:=aX.1.at_ 3 rfl;have tX:=aX.1.free_ 0;have tY:=aX.1.free_ 1;have tZ:=aX.1.free_ 2;have uA:=aX.1.free_ 3;have sD:=Kh (λs5 p5 n5 c5 t5 q5 m5 d5 W (I:Below wd.heap.size wd W) (xE:Qs W s5 p5 n5 c5 t5 q5 m5 d5 ((pc.2:Int):Rat))=>Cx s1 p1 n1 c1 t1 q1 m1 d1 (SB i) s5 p5 n5 c5 t5 q5 m5 d5 ((pc.2:Int):Rat) W ((HP.1.keep dC.1).keep I) xE (by have:=bB.1 i;omega) (by rw[Ed];have:nd pc.2.natAbs<=1:=Bj.2 (by omega);omega));clear uL uP qI tC qA rT;go_upto_region 24 with(fail)
        refine J2 (λW=>W.cell? ⟨gb,0,none⟩=some (.bool s1)/\W.frozen? ⟨gb,0,none⟩=false/\W.cell? ⟨gb,1,none⟩=some (.slice p1 n1 c1)/\W.frozen? ⟨gb,1,none⟩=false/\W.cell? ⟨gb,2,none⟩=some (.bool t1)/\W.frozen? ⟨gb,2,none⟩=false/\W.cell? ⟨gb,3,none⟩=some (.slice q1 m1 d1)/\W.frozen? ⟨gb,3,none⟩=false) (λW I=>⟨Aq I y0,Ab I (by rw[y0];rfl) (tX),Aq I y1,Ab I (by rw[y1];rfl) (tY),Aq I y2,Ab I (by rw[y2];rfl) (tZ),Aq I y3,Ab I (by rw[y3];rfl) (uA)⟩) (λbC hHeld0=>?_);clear y0 y1 y2 y3 tX tY tZ uA;refine Aj 0 ?_;refine Aj 1 ?_;refine G6 2 rfl (λK hK=>?_);focus(go_simp;refine(En pc.2 _ (by omega) (by omega)).mono ?_;rintro e v5 ⟨⟨s5,p5,n5,c5,t5,q5,m5,d5,rfl,uV⟩,cG⟩;have oI:=Kh ((Below.refl _ wd).drew.trans cG:Below wd.heap.size wd v5);have tJ:=Kh uV;clear uV cG;(first|with_reducible refine hK.out _ _ ?_ (λhHeld1=>?_) |(go_wp2_with fail;with_reducible refine hK.out _ _ ?_ (λhHeld1=>?_))))
        focus((try dsimp only);exact bC.1 _ oI.1)
        focus(clear hK K;(try simp only[Act.put,Bo,Bt,Bp]))
        refine G6 3 rfl (λK hK=>?_);focus(go_simp;refine(sD.1 _ _ _ _ _ _ _ _ _ oI.1 tJ.1).mono ?_;rintro e v6 ⟨⟨s6,p6,n6,c6,t6,q6,m6,d6,rfl,nC⟩,eP⟩;have gN:=bt oI eP;have tK:=Kh nC;clear nC eP;(first|with_reducible refine hK.out _ _ ?_ (λhHeld2=>?_) |(go_wp2_with fail;with_reducible refine hK.out _ _ ?_ (λhHeld2=>?_))))
        focus((try dsimp only);exact bC.1 _ gN.1)
        focus(clear hK K;(try simp only[Act.put,Bo,Bt,Bp]))
        refine Js 4 rfl (λK hK=>?_);go_simp
        refine hK.out _ _ ?_;clear hK K
        (try simp only[Act.put,Bo,Bt,Bp])
        have XQ:=((((aX.1.below_ gN.1 aX.1.lt).set_ 0 (.bool s6)).set_ 1 (.slice p6 n6 c6)).set_ 2 (.bool t6)).set_ 3 (.slice q6 m6 d6);have pG:Sts v6 gb:=Sts.of (aX.1.below_ gN.1 aX.1.lt) (by intro v hv;simp at hv;rcases hv with rfl|rfl|rfl|rfl <;> first|exact NotInt.bool _|exact NotInt.slice _ _ _);have gU:=I32.put4 pG 0 1 2 3 (.bool s6) (.slice p6 n6 c6) (.bool t6) (.slice q6 m6 d6) (NotInt.bool _) (NotInt.slice _ _ _) (NotInt.bool _);have oN:=Hm v6 gb 0 1 2 3 (.bool s6) (.slice p6 n6 c6) (.bool t6) (.slice q6 m6 d6);obtain⟨wq,uR⟩:∃wq,((((v6.setCell ⟨gb,0,none⟩ (.bool s6)).setCell ⟨gb,1,none⟩ (.slice p6 n6 c6)).setCell ⟨gb,2,none⟩ (.bool t6)).setCell ⟨gb,3,none⟩ (.slice q6 m6 d6))=wq:=⟨_,rfl⟩
        rw[uR]at XQ gU oN ⊢;have pO:=Kh (show Below wi.heap.size wi wq from Ae (dC.1.trans (gN.1.mono dC.1.size)) oN (by have:=dC.1.size;have:=gN.1.size;omega) (by have:=pQ.1;omega));have oJ:=Kh XQ;have sH:=Kh (tK.1.i32 gU);have sN:=Kh (((sP.1.keep (λ_=>IsQ.solid _) gN.1).i32 (λ_=>IsQ.solid _) gU oN (by have:=rZ.1;omega)));obtain⟨z,hz⟩:∃z,SB i*((pc.2:Int):Rat)=z:=⟨_,rfl⟩
        rw[hz]at sH sX
        have tL:=Kh (show hq z<=125000 by
         rw[<-hz];have h7:=B7 (SB i) ((pc.2:Int):Rat);have h8:=bB.1 i;have h9:hq ((pc.2:Int):Rat)<=1:=by rw[Ed];have:nd pc.2.natAbs<=1:=Bj.2 (by omega);omega
         omega)
        obtain⟨A,hA⟩:∃A:Nat->Rat,(λj=>A0 (F.getD j 0)+S (F.getD j 0) i)=A:=⟨_,rfl⟩
        obtain⟨Y,hY⟩:∃Y:Nat->Rat,(λj=>X ix (F.getD j 0))=Y:=⟨_,rfl⟩
        have vK:=Kh hA;have wI:=Kh hY;have vM:=Kh (show ∀j,j<J->hq (A j)<=440000000 from λj hj=>by rw[<-hA];exact vJ.1 i j hi hj);have tI:=Kh (show ∀j,j<J->hq (Y j)<=10000 from λj hj=>by rw[<-hY];exact qB.1 ix j sB.1 hj);have wD:=Kh (show QRow (λj=>IsQ (Y j)) wq gx J J from sN.1.congr (λj _=>by rw[<-hY]));have sK:=Kh (show QRow (addQ A Y z 0) wq g J J from(O.1.keep (λ_=>IsQ.solid _) pO.1).congr (λj _=>by unfold addQ;rw[if_neg (Nat.not_lt_zero j),<-hA]));have pF:gx≠g:=by have:=rZ.1;have:=pQ.1;omega
        have pD:gb≠g:=by have:=pQ.1;omega
        have oW:=Kh pF;have oV:=Kh pD;clear XQ pG gU oN uR hz hA hY pF pD bC sD oI gN tJ tK sP dC aX sN hHeld0 hHeld1 hHeld2;go_wp2_with fail
        go_loopw [100] (λjj wx=>∃j:Nat,j<=J/\jj=.int .i64 j/\QRow (addQ A Y z j) wx g J J/\wq.grownBy wx (some g)/\I32 wq wx) (λjj _=>J - (intOf jj).toNat)
        case atStart=>exact⟨0,Nat.zero_le _,rfl,sK.1,Af g (Below.refl _ _),I32.refl _⟩
        case round=>
         obtain⟨j,hj,rfl,nA,pE,pB⟩:=hrel;obtain⟨we,rfl⟩:∃we:World,we=wr:=⟨_,rfl⟩
         have Z:=Kh nA;have U:=Kh pE;have cC:=Kh pB;clear nA pE pB sK;by_cases hlj:j<J
         ·have zG:(j:Int)<(J:Int):=by omega
          have mE:(some gb:Option Nat)≠some g:=λe=>by injection e with e;exact oV.1 e
          have y0:=U.1.cell (oJ.1.at_ 0 rfl) mE;have y1:=U.1.cell (oJ.1.at_ 1 rfl) mE;have y2:=U.1.cell (oJ.1.at_ 2 rfl) mE;have y3:=U.1.cell (oJ.1.at_ 3 rfl) mE;obtain⟨s7,p7,n7,c7,t7,q7,m7,d7,a0,a1,a2,a3,uT⟩:=(wD.1.i32 (λ_=>IsQ.solid _) cC.1 U.1 oW.1).val j hlj;obtain⟨s5,p5,n5,c5,t5,q5,m5,d5,e0,e1,e2,e3,uS⟩:=addQ.elem Z.1 hlj;have vO:=Kh (show Qs we s5 p5 n5 c5 t5 q5 m5 d5 (A j)from uS);have vP:=Kh (show Qs we s7 p7 n7 c7 t7 q7 m7 d7 (Y j)from uT);have sI:=Kh (sH.1.i32 cC.1);have vL:=Kh (vM.1 j hlj)
          have wG:=Kh (show hq (z*Y j)<=140000 by
           have h7:=B7 z (Y j);have h8:=tL.1;have h9:=tI.1 j hlj;omega)
          have vY:=Kh (λw1 (I:Below we.heap.size we w1)=>Cx s6 p6 n6 c6 t6 q6 m6 d6 z s7 p7 n7 c7 t7 q7 m7 d7 (Y j) w1 (sI.1.keep I) (vP.1.keep I) (by have:=tL.1;omega) (by have:=tI.1 j hlj;omega));have hJ:=Z.1;have zJ:=oW.1;have zK:=oV.1;have zL:g<we.heap.size:=hJ.sts.1;clear uT uS mE;go_upto_region 28 with(fail)
          refine J2 (λW=>W.cell? ⟨gb,0,none⟩=some (.bool s6)/\W.cell? ⟨gb,1,none⟩=some (.slice p6 n6 c6)/\W.cell? ⟨gb,2,none⟩=some (.bool t6)/\W.cell? ⟨gb,3,none⟩=some (.slice q6 m6 d6)/\W.cell? ⟨gx,j*4,none⟩=some (.bool s7)/\W.cell? ⟨gx,j*4+1,none⟩=some (.slice p7 n7 c7)/\W.cell? ⟨gx,j*4+2,none⟩=some (.bool t7)/\W.cell? ⟨gx,j*4+3,none⟩=some (.slice q7 m7 d7)/\W.cell? ⟨g,j*4,none⟩=some (.bool s5)/\W.frozen? ⟨g,j*4,none⟩=false/\W.cell? ⟨g,j*4+1,none⟩=some (.slice p5 n5 c5)/\W.frozen? ⟨g,j*4+1,none⟩=false/\W.cell? ⟨g,j*4+2,none⟩=some (.bool t5)/\W.frozen? ⟨g,j*4+2,none⟩=false/\W.cell? ⟨g,j*4+3,none⟩=some (.slice q5 m5 d5)/\W.frozen? ⟨g,j*4+3,none⟩=false) (λW I=>⟨Aq I y0,Aq I y1,Aq I y2,Aq I y3,Aq I a0,Aq I a1,Aq I a2,Aq I a3,Aq I e0,Ab I (by rw[e0];rfl) (hJ.free _ (by omega)),Aq I e1,Ab I (by rw[e1];rfl) (hJ.free _ (by omega)),Aq I e2,Ab I (by rw[e2];rfl) (hJ.free _ (by omega)),Aq I e3,Ab I (by rw[e3];rfl) (hJ.free _ (by omega))⟩) (λbC hHeld0=>?_);clear y0 y1 y2 y3 a0 a1 a2 a3 e0 e1 e2 e3 hJ;refine Aj 0 ?_;refine Aj 1 ?_;refine Aj 2 ?_;refine Aj 3 ?_;refine Aj 4 ?_;refine Aj 5 ?_;refine Aj 6 ?_;refine Aj 7 ?_;refine Aj 8 ?_;refine Aj 9 ?_;refine Aj 10 ?_;refine G6 11 rfl (λK hK=>?_);focus(go_simp;refine(vY.1 _ (Below.refl _ we).drew).mono ?_;rintro e w2 ⟨⟨s3,p3,n3,c3,t3,q3,m3,d3,rfl,uU⟩,hH⟩;have hU:=Kh ((Below.refl _ we).drew.trans hH:Below we.heap.size we w2);have wJ:=Kh uU;clear uU hH;(first|with_reducible refine hK.out _ _ ?_ (λhHeld1=>?_) |(go_wp2_with fail;with_reducible refine hK.out _ _ ?_ (λhHeld1=>?_))))
          focus((try dsimp only);exact bC.1 _ hU.1)
          focus(clear hK K;(try simp only[Act.put,Bo,Bt,Bp]))
          refine G6 12 rfl (λK hK=>?_);focus(go_simp;refine(Gh s5 p5 n5 c5 t5 q5 m5 d5 (A j) s3 p3 n3 c3 t3 q3 m3 d3 (z*Y j) _ (vO.1.keep hU.1) wJ.1 (by have:=vL.1;omega) (by have:=wG.1;omega)).mono ?_;rintro e w4 ⟨⟨s8,p8,n8,c8,t8,q8,m8,d8,rfl,nC⟩,eP⟩;have oD:=bt hU eP;have qQ:=QRow.keep (λi=>(IsQ.solid _:Bu (addQ A Y z j i))) Z.1 oD.1;have sF:=Kh (addQ.put qQ hlj nC);have vQ:=Kh (show ∀v0 v1 v2 v3,wq.grownBy ((((w4.setCell ⟨g,j*4,none⟩ v0).setCell ⟨g,j*4+1,none⟩ v1).setCell ⟨g,j*4+2,none⟩ v2).setCell ⟨g,j*4+3,none⟩ v3) (some g)from λ_ _ _ _=>Ej U.1 oD.1);have H4:=Kh ((cC.1.trans (I32.below oD.1)).trans (I32.put4 qQ.sts (j*4) (j*4+1) (j*4+2) (j*4+3) (.bool s8) (.slice p8 n8 c8) (.bool t8) (.slice q8 m8 d8) (NotInt.bool _) (NotInt.slice _ _ _) (NotInt.bool _)));clear nC eP qQ;(first|with_reducible refine hK.out _ _ ?_ (λhHeld2=>?_) |(go_wp2_with fail;with_reducible refine hK.out _ _ ?_ (λhHeld2=>?_))))
          focus((try dsimp only);exact bC.1 _ oD.1)
          focus(clear hK K;(try simp only[Act.put,Bo,Bt,Bp]))
          refine Aj 13 ?_;refine Js 14 rfl (λK hK=>?_);go_simp
          refine hK.out _ _ ?_;clear hK K
          (try simp only[Act.put,Bo,Bt,Bp])
          all_goals clear Z U cC
          all_goals go_wp2
          all_goals go_roundw
          all_goals first
           | exact⟨j+1,by omega,by go_num,sF.1,vQ.1 _ _ _ _,H4.1⟩
           |(simp[intOf];omega)
         ·obtain rfl:j=J:=by omega
          have sM:=Kh (show QRow (λq=>IsQ (A0 (F.getD q 0)+S (F.getD q 0) (i+1))) we g j j from Z.1.congr (λq hq=>by
           unfold addQ;rw[if_pos hq,sV.1,sX.1,<-vK.1,<-wI.1];congr 1;grind))
          have rY:=Kh ((dE.1.trans (Af g pO.1)).trans U.1);have sA:=Kh ((pM.1.trans (I32.below pO.1)).trans cC.1);clear Z U cC;go_wp2;go_roundw
          case rel=>exact⟨i+1,by omega,by go_num,sM.1,rY.1,sA.1⟩
          case measure=>simp[intOf];omega
      ·obtain rfl:i=wt+1:=by omega
       have hV:=Kh (show QRow (λj=>IsQ (Ot Q n wt D X ch (F.getD j 0) (k+1))) wi g J J from O.1.congr (λj _=>by rw[pU.1]));go_wp2;go_roundw
       case rel=>exact⟨k1,.inr (by have:=pS.1;omega),by first|rfl|go_num,by rw[<-pS.1];exact hV.1,rU.1⟩
       case measure=>have:=pS.1;simp[intOf];omega
    ·have hI:k=K - 1:=by have:=vW.1;omega
     have hV:=Kh (show QRow (λj=>IsQ (Ot Q n wt D X ch (F.getD j 0) (K - 1))) wk g J J from by rw[<-hI];exact O.1);have xC:¬((k:Int)+1<(K:Int)):=by omega
     clear hI;go_wp2
     (first|go_ret2|go_ret)
     exact⟨⟨g,rfl,tE.1,hV.1⟩,hW.1⟩
end
end Go.Proofs.YtenlbhlllgppmaaGreatDoor
