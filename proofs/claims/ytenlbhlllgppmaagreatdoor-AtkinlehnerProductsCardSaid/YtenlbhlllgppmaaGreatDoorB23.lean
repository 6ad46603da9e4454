/- Contract of moved: a symbol times a matrix, as a vector. -/
import Derived.Test.YtenlbhlllgppmaaGreatDoorB22
set_option linter.unusedSimpArgs false
set_option maxRecDepth 100000
set_option maxHeartbeats 8000000
namespace Go.Proofs.YtenlbhlllgppmaaGreatDoor
section
open Go.RowKit Tryz
def Za (m ix:Nat) (sg:Int) (h:Nat->Int) (k c:Nat):Int:=if c % m=ix/\c / m<k then sg*h (c / m)else 0
theorem Zb (m I:Nat) (sg:Int) (h:Nat->Int) (c:Nat):Za m I sg h 0 c=0:=by unfold Za;rw[if_neg (λh=>Nat.not_lt_zero _ h.2)]
theorem dI {m I:Nat} {sg:Int} {h:Nat->Int} {k c:Nat} (J:c≠k*m+I):Za m I sg h k c=Za m I sg h (k+1) c:=by
 unfold Za;by_cases h1:c % m=I
 ·by_cases h2:c / m<k
  ·rw[if_pos ⟨h1,h2⟩,if_pos ⟨h1,by omega⟩]
  ·have O:c / m≠k:=λe=>J (by have:=Nat.div_add_mod c m;rw[e,h1,Nat.mul_comm]at this;exact this.symm)
   rw[if_neg (λh=>h2 h.2),if_neg (λh=>by have:=h.2;omega)]
 ·rw[if_neg (λh=>h1 h.1),if_neg (λh=>h1 h.1)]
theorem iC {m I:Nat} (sg:Int) (h:Nat->Int) {k:Nat} (J:I<m):Za m I sg h (k+1) (k*m+I)=sg*h k:=by
 unfold Za;have O:(k*m+I) % m=I:=by rw[Nat.mul_comm,Nat.mul_add_mod,Nat.mod_eq_of_lt J]
 have U:(k*m+I) / m=k:=by rw[Nat.mul_comm,Nat.mul_add_div (by omega),Nat.div_eq_of_lt J,Nat.add_zero]
 rw[if_pos ⟨O,by omega⟩,U]
theorem W8 (T B n wt:Nat) (L:List Nat) (f:Nat->Nat×Int) (i j:Nat) (a b c d:Int) (w:World) (h:WorldAt w T B n wt L f) (hB:B<=w.heap.size) (h0:0<n) (hn:n<=120) (uL:wt<=22) (hj:j<L.length) (hL:L.length<=14400) (sF:∀x,x∈L->x<n*n) (hf:TabOk L.length f)
  (ha:-1073741824<=a) (sI:a<=1073741824) (Z:-1073741824<=b) (sJ:b<=1073741824) (hc:-1073741824<=c) (sM:c<=1073741824) (hd:-1073741824<=d) (sN:d<=1073741824):
  Calls prog 93 #[.pointer (some ⟨T,0,none⟩),.int .i64 i,.int .i64 j,.agg #[.int .i64 a,.int .i64 b,.int .i64 c,.int .i64 d]] w λe w'=>(∃g,e=.returned (.slice (some ⟨g,0,none⟩) (((wt+1)*L.length:Nat)) (((wt+1)*L.length:Nat)))/\w.heap.size<=g/\ZRow (Mx n wt L f i j (a,b,c,d)) w' g ((wt+1)*L.length) ((wt+1)*L.length))/\Below w.heap.size w w':=by
 obtain⟨CC,iL⟩:∃x,(wt+1)*L.length=x:=⟨_,rfl⟩
 have wD:CC<=331200:=by rw[<-iL];exact Nat.mul_le_mul (by omega:wt+1<=23) hL
 obtain⟨aj,oE⟩:∃x,L[j]?=some x:=⟨_,List.getElem?_eq_getElem hj⟩
 have oV:=sF aj (List.mem_of_getElem? oE);have sQ:L.getD j 0=aj:=by rw[List.getD_eq_getElem?_getD,oE];rfl
 obtain⟨u,hu⟩:∃x,aj / n=x:=⟨_,rfl⟩
 obtain⟨v,hv⟩:∃x,aj % n=x:=⟨_,rfl⟩
 have wJ:u<n:=by rw[<-hu];exact Nat.div_lt_of_lt_mul oV
 have wK:v<n:=by rw[<-hv];exact Nat.mod_lt _ h0
 have hW:∀x:Int,∃r:Nat,x % (n:Int)=r/\r<n:=λx=>⟨(x % n).toNat,by have:=Int.emod_nonneg x (show(n:Int)≠0 by omega);omega,by have:=Int.emod_nonneg x (show(n:Int)≠0 by omega);have:=Int.emod_lt_of_pos x (show(0:Int)<n by omega);omega⟩
 obtain⟨ra,nW,vE⟩:=hW a;obtain⟨rb,bY,vF⟩:=hW b;obtain⟨rc,qE,vG⟩:=hW c;obtain⟨rd,qF,vH⟩:=hW d;obtain⟨X,hX⟩:∃x:Nat,u*ra+v*rc=x:=⟨_,rfl⟩
 obtain⟨Y,hY⟩:∃x:Nat,u*rb+v*rd=x:=⟨_,rfl⟩
 obtain⟨pp,oJ⟩:∃pp,f ((((X:Int) % n).toNat)*n+(((Y:Int) % n).toNat))=pp:=⟨_,rfl⟩
 have qC:=hf ((((X:Int) % n).toNat)*n+(((Y:Int) % n).toNat));rw[oJ]at qC
 have rK:=Kh (show Mx n wt L f i j (a,b,c,d)=λk=>if pp.2=0 then 0 else if k % L.length=pp.1/\k / L.length<=wt then pp.2*mv i a b c d wt (k / L.length)else 0 by
  unfold Mx;dsimp only;rw[sQ,hu,hv,nW,bY,qE,qF];have e1:((u:Nat):Int)*(ra:Int)+(v:Int)*(rc:Int)=(X:Nat):=by rw[<-hX];push_cast;rfl
  have e2:((u:Nat):Int)*(rb:Int)+(v:Int)*(rd:Int)=(Y:Nat):=by rw[<-hY];push_cast;rfl
  rw[e1,e2,oJ])
 rw[rK.1,iL];have rF:=Kh (λW (Z:Below w.heap.size w W)=>iL▸Ko T B n wt L f W (h.keep hB Z) uL hL);have oA:=Kh (λW (Z:Below w.heap.size w W)=>nW▸Iv T B n wt L f a W (h.keep hB Z) h0 hn);have hR:=Kh (λW (Z:Below w.heap.size w W)=>bY▸Iv T B n wt L f b W (h.keep hB Z) h0 hn);have pI:=Kh (λW (Z:Below w.heap.size w W)=>qE▸Iv T B n wt L f c W (h.keep hB Z) h0 hn);have pJ:=Kh (λW (Z:Below w.heap.size w W)=>qF▸Iv T B n wt L f d W (h.keep hB Z) h0 hn);have tK:=Kh (λW (Z:Below w.heap.size w W)=>oJ▸eY T B n wt L f X Y W (h.keep hB Z) (nS hB Z.size) h0 hn);have oB:=Kh (λW (Z:Below w.heap.size w W)=>h.keep hB Z);have uH:=Y6 CC (by omega);have rP:=Kh qC;have tJ:=Kh oE;have HU:=Kh (And.intro hu hv);have rV:=Kh (And.intro hX hY);have aX:=Kh (And.intro (And.intro ha sI) (And.intro (And.intro Z sJ) (And.intro (And.intro hc sM) (And.intro hd sN))));have tN:=Kh iL;clear h hf ha sI Z sJ hc sM hd sN qC oE sQ hu hv hW nW bY qE qF hX hY oJ oV iL sF rK;go_enter func93,ntmps93
 go_wp2_with fail
 obtain⟨w0,sX,X0,pV⟩:=bx1 w #[.int .i64 a,.int .i64 b,.int .i64 c,.int .i64 d] 63;rw[sX];refine(rF.1 w0 pV).mono ?_;rintro e w1 ⟨rfl,m1,rfl⟩;have pW:Below w.heap.size w (w0.drewN m1):=Aa pV m1;have X1:=X0.below_ (Aa (Below.refl _ w0) m1) X0.lt;generalize w0.drewN m1=w1 at pW X1 ⊢;have tL:=Kh pW;have rS:=Kh X1;clear sX X0 pV X1 pW rF;go_wp2_with fail
 have oK:=ZRow.made (λ_=>0) w1 CC;obtain⟨wz,qG⟩:∃wz,w1.alloc (.cells (madeCells #[.bool false,.slice none 0 0] (CC*2)) 84)=wz:=⟨_,rfl⟩
 have sL:Below w1.heap.size w1 wz:=qG▸(Below.refl _ _).alloc (nR _) _;rw[qG]at oK ⊢;obtain⟨go,oH⟩:∃g,w1.heap.size=g:=⟨_,rfl⟩
 have cF:=Kh (show w.heap.size<go by have:=rS.1.lt;omega);have rE:=Kh (show Below go w1 wz from oH▸sL);rw[oH]at oK ⊢;have rQ:=Kh oK;have U:=Kh (show ∀W,Below go w1 W->Below w.heap.size w W from λW Z=>tL.1.trans (Z.mono (Nat.le_of_lt cF.1)));have pM:=Kh (show ∀W,Below go w1 W->Blk W w.heap.size 63 #[.int .i64 a,.int .i64 b,.int .i64 c,.int .i64 d]from λW Z=>rS.1.below_ Z cF.1);have vT:=Kh oH;clear oK qG sL oH uH;go_loopw [27] (λii wr=>∃k:Nat,k<=CC/\ii=.int .i64 k/\ZRow (λ_=>0) wr go CC k/\Below go w1 wr) (λii _=>CC - (intOf ii).toNat)
 case atStart=>exact⟨0,Nat.zero_le _,rfl,rQ.1,rE.1⟩
 case round=>
  obtain⟨k,hk,rfl,dY,sK⟩:=hrel;obtain⟨w2,rfl⟩:∃w2:World,w2=wr:=⟨_,rfl⟩
  have dE:=Kh dY;have hO:=Kh sK;clear dY sK rQ rE;by_cases hlt:k<CC
  ·have qB:(k:Int)<(CC:Int):=by omega
   go_wp2_with fail
   refine(G9 0 w2 (by omega) (by omega)).mono ?_;rintro e w3 ⟨⟨s3,p3,n3,c3,rfl,tA⟩,hD⟩;have hM:=ZRow.keep dE.1 hD;have tP:=Kh (ZRow.set (k':=k+1) hM k hlt (λ_=>0) (λi' h1 h2=>⟨by omega,rfl⟩) tA);have bE:=Kh (hO.1.trans (hD.mono (Nat.le_of_lt dE.1.sts.1)));obtain⟨u0,uK⟩:=nV (hM.has (k*2) (by omega));obtain⟨u2,hu2⟩:=nV (hM.has (k*2+1) (by omega));have f0:=hM.free (k*2) (by omega);have f1:=hM.free (k*2+1) (by omega);clear tA hD hM;go_wp2;go_roundw
   case rel=>exact⟨k+1,by omega,by go_num,tP.1,Dc bE.1 (nR _)⟩
   case measure=>simp[intOf];omega
  ·obtain rfl:CC=k:=by omega
   have sY:=oB.1 w2 (U.1 w2 hO.1);obtain⟨pl,cl,t2,sW⟩:=sY.c2;rcases sW with⟨uI,_⟩ |⟨gL,uV,e,_,hx⟩
   ·rw[uI]at hj;simp at hj
   cases e;obtain⟨p0,p1,_⟩:=hx j aj tJ.1;rw[HU.1.1]at p0;rw[HU.1.2]at p1;have wE:(j:Int)<(L.length:Int):=by omega
   have X2:=pM.1 w2 hO.1;have x0:=X2.at_ 0 rfl;have x1:=X2.at_ 1 rfl;have x2:=X2.at_ 2 rfl;have x3:=X2.at_ 3 rfl;clear sY hx X2;go_wp2_with fail
   go_quiet (fail)
   generalize hw3:w2.drewN nq=w3;have hD:Below w2.heap.size w2 w3:=hw3▸Aa (Below.refl _ _) nq;have bE:=Kh (hO.1.trans (hD.mono (Nat.le_of_lt dE.1.sts.1)));have gA:=Kh (ZRow.keep dE.1 hD);have X2:=pM.1 w3 bE.1;have x0:=X2.at_ 0 rfl;have x1:=X2.at_ 1 rfl;have x2:=X2.at_ 2 rfl;have x3:=X2.at_ 3 rfl;have nW:=oA.1 w3 (U.1 w3 bE.1);have oA:=Kh (λm=>oA.1 (w3.drewN m) (U.1 _ (Aa bE.1 m)));have hR:=Kh (λm=>hR.1 (w3.drewN m) (U.1 _ (Aa bE.1 m)));have pI:=Kh (λm=>pI.1 (w3.drewN m) (U.1 _ (Aa bE.1 m)));have pJ:=Kh (λm=>pJ.1 (w3.drewN m) (U.1 _ (Aa bE.1 m)));clear hw3 hD X2 p0 p1 t2 hO dE nW;go_wp2_with fail
   go_quiet (first|with_reducible exact Calls.quiet_of_same (oA.1 _)|with_reducible exact Calls.quiet_of_same (hR.1 _)|with_reducible exact Calls.quiet_of_same (pI.1 _)|with_reducible exact Calls.quiet_of_same (pJ.1 _))
   generalize hw4:w3.drewN nq=w4;have pX:Below w3.heap.size w3 w4:=hw4▸Aa (Below.refl _ _) nq;have oX:=Kh (bE.1.trans (pX.mono (Nat.le_of_lt gA.1.sts.1)));have gF:=Kh (ZRow.keep gA.1 pX);have sG:(u:Int)*(ra:Int)+(v:Int)*(rc:Int)=(X:Nat):=by rw[<-rV.1.1];push_cast;rfl
   have sH:(u:Int)*(rb:Int)+(v:Int)*(rd:Int)=(Y:Nat):=by rw[<-rV.1.2];push_cast;rfl
   obtain⟨S1,pQ⟩:∃x:Nat,u*ra=x:=⟨_,rfl⟩
   obtain⟨S2,pR⟩:∃x:Nat,v*rc=x:=⟨_,rfl⟩
   obtain⟨S3,pS⟩:∃x:Nat,u*rb=x:=⟨_,rfl⟩
   obtain⟨S4,pT⟩:∃x:Nat,v*rd=x:=⟨_,rfl⟩
   have k1:(u:Int)*(ra:Int)=(S1:Nat):=by rw[<-pQ];push_cast;rfl
   have k2:(v:Int)*(rc:Int)=(S2:Nat):=by rw[<-pR];push_cast;rfl
   have k3:(u:Int)*(rb:Int)=(S3:Nat):=by rw[<-pS];push_cast;rfl
   have k4:(v:Int)*(rd:Int)=(S4:Nat):=by rw[<-pT];push_cast;rfl
   have l1:S1<=14400:=by rw[<-pQ];exact Nat.mul_le_mul (by omega:u<=120) (by omega:ra<=120)
   have l2:S2<=14400:=by rw[<-pR];exact Nat.mul_le_mul (by omega:v<=120) (by omega:rc<=120)
   have l3:S3<=14400:=by rw[<-pS];exact Nat.mul_le_mul (by omega:u<=120) (by omega:rb<=120)
   have l4:S4<=14400:=by rw[<-pT];exact Nat.mul_le_mul (by omega:v<=120) (by omega:rd<=120)
   rw[k1,k2]at sG;rw[k3,k4]at sH;clear hw4 pX x0 x1 x2 x3 pQ pR pS pT gA bE;go_wp2_with fail
   refine(tK.1 w4 (U.1 w4 oX.1)).mono ?_;rintro e w5 ⟨rfl,pY⟩;obtain⟨ix,sg⟩:=pp;have nZ:=Kh (oX.1.trans (pY.mono (Nat.le_of_lt gF.1.sts.1)));have bA:=Kh (ZRow.keep gF.1 pY);clear pY k1 k2 k3 k4 l1 l2 l3 l4 sG sH gF oX;dsimp only;by_cases hs0:sg=0
   ·subst hs0
    have HZ:=Kh (show ZRow (λk=>if((ix,(0:Int)):Nat×Int).2=0 then 0 else if k % L.length=((ix,(0:Int)):Nat×Int).1/\k / L.length<=wt then((ix,(0:Int)):Nat×Int).2*mv i a b c d wt (k / L.length)else 0) w5 go CC CC from bA.1.congr (λj _=>by rw[if_pos rfl]));go_wp2;go_ret;exact⟨⟨go,rfl,Nat.le_of_lt cF.1,ZRow.keep bA.1 ((Below.refl _ _).alloc (nR _) _)⟩,(U.1 w5 nZ.1).alloc (U.1 w5 nZ.1).size _⟩
   ·have sV:sg=1∨sg=-1:=by
     rcases rP.1 with h |⟨_,h|h|h⟩
     ·injection h with _ h;exact absurd h hs0
     ·exact absurd h hs0
     ·exact .inl h
     ·exact .inr h
    have uE:ix<L.length:=by
     rcases rP.1 with h |⟨h,_⟩
     ·injection h with _ h;exact absurd h hs0
     ·exact h
    have wH:(sg==0)=false:=by simpa using hs0
    have pH:=Kh sV;clear sV;go_wp2_with fail
    obtain⟨w6,oL⟩:∃w6,w5.alloc (.cells #[.int .i64 (ix:Int),.int .i64 sg] 215)=w6:=⟨_,rfl⟩
    have mB:Below w5.heap.size w5 w6:=oL▸(Below.refl _ _).alloc (nR _) _;have X6:=oL▸Blk.new w5 215 #[.int .i64 (ix:Int),.int .i64 sg];rw[oL];refine(G9 sg w6 (by rcases pH.1 with h|h <;> omega) (by rcases pH.1 with h|h <;> omega)).mono ?_;rintro e w7 ⟨⟨s0,p0,n0,c0,rfl,sZ⟩,oF⟩;have X7:=X6.below_ oF X6.lt;have rT:=Kh X7;have rI:=Kh (show go<w5.heap.size from bA.1.sts.1);have cT:=Kh (ZRow.keep bA.1 (mB.trans (oF.mono mB.size)));have rC:=Kh (nZ.1.trans ((mB.trans (oF.mono mB.size)).mono (Nat.le_of_lt bA.1.sts.1)));have rW:=Kh sZ;clear oL mB X6 X7 sZ oF nZ bA;go_wp2_with fail
    obtain⟨w8,oM⟩:∃w8,w7.alloc (.cells #[.bool s0,.slice p0 n0 c0] 84)=w8:=⟨_,rfl⟩
    have mC:Below w7.heap.size w7 w8:=oM▸(Below.refl _ _).alloc (nR _) _;have X8:=oM▸Blk.new w7 84 #[.bool s0,.slice p0 n0 c0];rw[oM];have pL:=Kh (bk rT mC);have gP:=Kh (ZRow.keep cT.1 mC);have rD:=Kh (rC.1.trans (mC.mono (Nat.le_of_lt cT.1.sts.1)))
    have pN:=Kh (show ZE (sg*mv i a b c d 0 0) w8 w7.heap.size (0*2)from⟨s0,p0,n0,c0,X8.at_ 0 rfl,X8.at_ 1 rfl,by
     have h:=rW.1.keep mC;have e:sg*mv i a b c d 0 0=sg:=by rw[mv];simp
     rw[e];exact h⟩)
    have oZ:=Kh (show go<w7.heap.size from cT.1.sts.1);have pF:=Kh X8.lt;obtain⟨g7,sO⟩:∃x,w7.heap.size=x:=⟨_,rfl⟩
    rw[sO]at pN oZ pF ⊢;have rL:=Kh (λW=>G9 a W (by have:=aX.1;omega) (by have:=aX.1;omega));have rM:=Kh (λW=>G9 b W (by have:=aX.1;omega) (by have:=aX.1;omega));have rN:=Kh (λW=>G9 c W (by have:=aX.1;omega) (by have:=aX.1;omega));have rO:=Kh (λW=>G9 d W (by have:=aX.1;omega) (by have:=aX.1;omega));have dC:=Kh (show nd a.natAbs<=2/\nd b.natAbs<=2/\nd c.natAbs<=2/\nd d.natAbs<=2 from⟨Dv aX.1.1.1 aX.1.1.2,Dv aX.1.2.1.1 aX.1.2.1.2,Dv aX.1.2.2.1.1 aX.1.2.2.1.2,Dv aX.1.2.2.2.1 aX.1.2.2.2.2⟩);clear oM mC X8 rT cT rC rW sO;go_loopw [18,19] (λvp vk wr=>∃(k gp cp:Nat),k<=wt/\vk=.int .i64 k/\vp=.slice (some ⟨gp,0,none⟩) (k+1) cp/\go<gp/\gp<wr.heap.size/\(∀V,V<k+1->ZE (sg*mv i a b c d k V) wr gp (V*2))/\Below w8.heap.size w8 wr) (λ_ vk _=>wt - (intOf vk).toNat)
    case atStart=>exact⟨0,g7,1,Nat.zero_le _,rfl,rfl,oZ.1,pF.1,λV hJ=>by obtain rfl:V=0:=(by omega);exact pN.1,Below.refl _ _⟩
    case round=>
     obtain⟨k,gp,cp,hk,rfl,rfl,sR,qA,qL,pZ⟩:=hrel;obtain⟨I,rfl⟩:∃I:World,I=wr:=⟨_,rfl⟩
     have eP:=Kh pZ;have tO:=Kh sR;have oS:=Kh (show go<I.heap.size by omega);have vS:=Kh qA;have pO:=Kh (show ∀W,Below I.heap.size I W->ZL (λV=>sg*mv i a b c d k V) W (.slice (some ⟨gp,0,none⟩) (k+1) cp) (k+1)from λW Z=>.inr ⟨gp,0,cp,rfl,nT qA Z.size,λV hJ=>by rw[Nat.zero_add];exact(qL V hJ).keep Z⟩);have rX:=Kh qL;have hG:=Kh (show Below go w1 I from rD.1.trans (pZ.mono (Nat.le_of_lt gP.1.sts.1)));have X9:=pM.1 I hG.1;have t1:=(oB.1 I (U.1 I hG.1)).c1
     have pK:=Kh (show ∀V,nd (sg*mv i a b c d k V).natAbs<=1000 from λV=>by
      have h1:=Tf i a b c d dC.1.1 dC.1.2.1 dC.1.2.2.1 dC.1.2.2.2 k V
      have h2:(sg*mv i a b c d k V).natAbs=(mv i a b c d k V).natAbs:=by
       rw[Int.natAbs_mul];rcases pH.1 with h|h <;> rw[h] <;> simp
      rw[h2];omega)
     clear sR qA qL pZ pN oZ pF;by_cases hkw:k<wt
     ·have vD:(k:Int)<(wt:Int):=by omega
      have b0:=X9.at_ 0 rfl;have b1:=X9.at_ 1 rfl;have b2:=X9.at_ 2 rfl;have b3:=X9.at_ 3 rfl;clear X9;by_cases qB:k<i
      ·have sU:(k:Int)<(i:Int):=by omega
       have hT:=Kh (show ∀W,Below I.heap.size I W->(W.cell? ⟨w.heap.size,0,none⟩=some (.int .i64 a)/\W.cell? ⟨w.heap.size,1,none⟩=some (.int .i64 b))from λW Z=>⟨cell_next Z b0,cell_next Z b1⟩);have hI:=hT.1 _ (Below.refl _ I).drew;have hP:=Kh (show ∀wb,Below I.drew.heap.size I.drew wb->Below I.heap.size I wb from λwb Z=>(Below.refl _ I).drew.trans Z);have hQ:=Kh (show ∀wa wb,Below I.heap.size I wa->Below wa.heap.size wa wb->Below I.heap.size I wb from λwa wb h1 h2=>h1.trans (h2.mono h1.size));have pG:=Kh (show ∀V,sg*mv i a b c d (k+1) V=lin a b (λV=>sg*mv i a b c d k V) V from λV=>by rw[Mw,mv,if_pos qB]);clear b0 b1 b2 b3;go_upto_region 17 with(fail)
       go_region_held3 (λW=>W.cell? ⟨w.heap.size,0,none⟩=some (.int .i64 a)/\W.cell? ⟨w.heap.size,1,none⟩=some (.int .i64 b))
        (first|with_reducible exact hI|with_reducible exact hT.1 _ O |(exfalso;assumption))
        (first
         |(go_at_call 83;(with_reducible refine(rL.1 _).mono ?_);rintro e hE ⟨⟨sA,pA,nA,cA,rfl,qH⟩,J⟩;have O:Below I.heap.size I hE:=(by first|exact hQ.1 _ _ O J|exact hP.1 _ J))
         |(go_at_call 83;(with_reducible refine(rM.1 _).mono ?_);rintro e hE ⟨⟨sB,pB,nB,cB,rfl,qI⟩,J⟩;have O:Below I.heap.size I hE:=(by first|exact hQ.1 _ _ O J|exact hP.1 _ J))
         |(go_at_call 145;refine(Pj _ (k+1) (λV=>sg*mv i a b c d k V) sA pA nA cA a sB pB nB cB b _ (pO.1 _ O) (by first|exact qH|exact qH.keep J) (by first|exact qI|exact qI.keep J) (by omega) (by omega) (by rw[<-qH.2.1];have:=dC.1;omega) (by rw[<-qI.2.1];have:=dC.1;omega) pK.1 (λV h=>by rw[Ju _ _ _ _ _ _ _ (by omega),Int.mul_zero])).mono ?_;rintro e qO ⟨⟨gN,rfl,mD,nX⟩,mA⟩;have mE:=Kh (nS O.size mD);have O:Below I.heap.size I qO:=Below.trans O (mA.mono O.size);have hU:=Kh nX;have oY:=Kh O;clear nX mD))
       all_goals go_wp2
       all_goals go_roundw
       all_goals first
        | exact⟨k+1,gN,_,by omega,by go_num,rfl,nT oS.1 mE.1,hU.1.sts.1,λV hJ=>by rw[pG.1];exact hU.1.val V hJ,eP.1.trans (oY.1.mono eP.1.size)⟩
        |(simp[intOf];omega)
      ·have sU:¬((k:Int)<(i:Int)):=by omega
       have hT:=Kh (show ∀W,Below I.heap.size I W->(W.cell? ⟨w.heap.size,2,none⟩=some (.int .i64 c)/\W.cell? ⟨w.heap.size,3,none⟩=some (.int .i64 d))from λW Z=>⟨cell_next Z b2,cell_next Z b3⟩);have hI:=hT.1 _ (Below.refl _ I).drew;have hP:=Kh (show ∀wb,Below I.drew.heap.size I.drew wb->Below I.heap.size I wb from λwb Z=>(Below.refl _ I).drew.trans Z);have hQ:=Kh (show ∀wa wb,Below I.heap.size I wa->Below wa.heap.size wa wb->Below I.heap.size I wb from λwa wb h1 h2=>h1.trans (h2.mono h1.size));have pG:=Kh (show ∀V,sg*mv i a b c d (k+1) V=lin c d (λV=>sg*mv i a b c d k V) V from λV=>by rw[Mw,mv,if_neg qB]);clear b0 b1 b2 b3;go_upto_region 18 with(fail)
       go_region_held3 (λW=>W.cell? ⟨w.heap.size,2,none⟩=some (.int .i64 c)/\W.cell? ⟨w.heap.size,3,none⟩=some (.int .i64 d))
        (first|with_reducible exact hI|with_reducible exact hT.1 _ O |(exfalso;assumption))
        (first
         |(go_at_call 83;(with_reducible refine(rN.1 _).mono ?_);rintro e hE ⟨⟨sC,pC,nC,cC,rfl,qJ⟩,J⟩;have O:Below I.heap.size I hE:=(by first|exact hQ.1 _ _ O J|exact hP.1 _ J))
         |(go_at_call 83;(with_reducible refine(rO.1 _).mono ?_);rintro e hE ⟨⟨sD,pD,nD,cD,rfl,qK⟩,J⟩;have O:Below I.heap.size I hE:=(by first|exact hQ.1 _ _ O J|exact hP.1 _ J))
         |(go_at_call 145;refine(Pj _ (k+1) (λV=>sg*mv i a b c d k V) sC pC nC cC c sD pD nD cD d _ (pO.1 _ O) (by first|exact qJ|exact qJ.keep J) (by first|exact qK|exact qK.keep J) (by omega) (by omega) (by rw[<-qJ.2.1];have:=dC.1;omega) (by rw[<-qK.2.1];have:=dC.1;omega) pK.1 (λV h=>by rw[Ju _ _ _ _ _ _ _ (by omega),Int.mul_zero])).mono ?_;rintro e qO ⟨⟨gN,rfl,mD,nX⟩,mA⟩;have mE:=Kh (nS O.size mD);have O:Below I.heap.size I qO:=Below.trans O (mA.mono O.size);have hU:=Kh nX;have oY:=Kh O;clear nX mD))
       all_goals go_wp2
       all_goals go_roundw
       all_goals first
        | exact⟨k+1,gN,_,by omega,by go_num,rfl,nT oS.1 mE.1,hU.1.sts.1,λV hJ=>by rw[pG.1];exact hU.1.val V hJ,eP.1.trans (oY.1.mono eP.1.size)⟩
        |(simp[intOf];omega)
     ·obtain rfl:wt=k:=by omega
      have hS:=Kh (show ZRow (Za L.length ix sg (mv i a b c d wt) 0) I go CC CC from ZRow.congr (ZRow.keep gP.1 eP.1) (λj _=>(Zb _ _ _ _ _).symm));have rU:=Kh (pL.1.below_ eP.1 pL.1.lt);obtain⟨gq,sS⟩:∃x,w5.heap.size=x:=⟨_,rfl⟩
      rw[sS]at rU rI ⊢;obtain⟨oO,oC,t2,_⟩:=(oB.1 I (U.1 I hG.1)).c2;have tR:=Kh t2;have tS:=Kh (show T<go from nT (oB.1 w (Below.refl _ _)).lt (nS hB (Nat.le_of_lt cF.1)));have rR:=Kh (U.1 I hG.1);clear sS X9 t2 pO pK gP pL rD eP rL rM rN rO;go_wp2_with fail
      go_loopw [120] (λii wr=>∃q:Nat,q<=wt+1/\ii=.int .i64 q/\ZRow (Za L.length ix sg (mv i a b c d wt) q) wr go CC CC/\I.grownBy wr (some go)) (λii _=>wt+1 - (intOf ii).toNat)
      case atStart=>exact⟨0,Nat.zero_le _,rfl,hS.1,Af go (Below.refl _ _)⟩
      case round=>
       obtain⟨q,hq,rfl,dY,sT⟩:=hrel;obtain⟨we,rfl⟩:∃we:World,we=wr:=⟨_,rfl⟩
       have gS:=Kh dY;have pE:=Kh sT;have pU:T≠go:=Nat.ne_of_lt tS.1;have uJ:gp≠go:=Nat.ne_of_gt tO.1;have qD:gq≠go:=Nat.ne_of_gt rI.1;clear dY sT;by_cases hlt:q<wt+1
       ·have wG:(q:Int)<((wt+1:Nat):Int):=by omega
        obtain⟨s,p,n5,c5,a0,a1,hz⟩:=ZE.but hS.1.sts pE.1 uJ (rX.1 q hlt);have HZ:=Kh hz;clear hz;go_wp2_with fail
        obtain⟨wb,oN⟩:∃wb,we.alloc (.cells #[.bool s,.slice p n5 c5] 84)=wb:=⟨_,rfl⟩
        have oG:Below we.heap.size we wb:=oN▸(Below.refl _ _).alloc (nR _) _;have X:=oN▸Blk.new we 84 #[.bool s,.slice p n5 c5];rw[oN];obtain⟨gb,sP⟩:∃gb,we.heap.size=gb:=⟨_,rfl⟩
        have bY:=ZRow.keep gS.1 oG;have hH:gb≠go:=by have:=gS.1.sts.1;omega
        have oI:=pE.1.trans (Af go oG);rw[sP]at X ⊢;obtain⟨QL,oD⟩:∃x,q*L.length=x:=⟨_,rfl⟩
        obtain⟨IX,pP⟩:∃x,QL+ix=x:=⟨_,rfl⟩
        have sE:IX<CC:=by
         rw[<-pP,<-oD,<-tN.1];have h1:q*L.length+L.length<=(wt+1)*L.length:=by rw[<-Nat.succ_mul];exact Nat.mul_le_mul_right _ hlt
         omega
        have rJ:=Kh (show IX=q*L.length+ix by rw[<-pP,<-oD]);have e1:(q:Int)*(L.length:Int)=(QL:Nat):=by rw[<-oD];push_cast;rfl
        have e2:(QL:Int)+(ix:Int)=(IX:Nat):=by omega
        have v1:IntKind.i64.wrap (QL:Int)=(QL:Nat):=IntWalk.i64_in _ (by omega);have v2:IntKind.i64.wrap (IX:Int)=(IX:Nat):=IntWalk.i64_in _ (by omega);have i0:(0:Int)<=(IX:Int):=by omega
        have i1:(IX:Int)<(CC:Int):=by omega
        have t2:=oI.cell tR.1 (λe=>by injection e with e;exact pU e);have x0:=oI.cell (rU.1.at_ 0 rfl) (λe=>by injection e with e;exact qD e);have b0:=X.at_ 0 rfl;have b1:=X.at_ 1 rfl;obtain⟨u0,uK⟩:=nV (bY.has (IX*2) (by omega));obtain⟨u1,wI⟩:=nV (bY.has (IX*2+1) (by omega));have f0:=bY.free (IX*2) (by omega);have f1:=bY.free (IX*2+1) (by omega);have hI:wb.drew.cell? ⟨T,2,none⟩=some (.slice oO L.length oC)/\wb.drew.cell? ⟨gq,0,none⟩=some (.int .i64 (ix:Int))/\wb.drew.cell? ⟨gb,0,none⟩=some (.bool s)/\wb.drew.cell? ⟨gb,1,none⟩=some (.slice p n5 c5):=⟨t2,x0,b0,b1⟩
        have tQ:=Kh (show ∀(X:World) (v1 v2:Value),(X.cell? ⟨T,2,none⟩=some (.slice oO L.length oC)/\X.cell? ⟨gq,0,none⟩=some (.int .i64 (ix:Int))/\X.cell? ⟨gb,0,none⟩=some (.bool s)/\X.cell? ⟨gb,1,none⟩=some (.slice p n5 c5))->(((X.setCell ⟨go,IX*2,none⟩ v1).setCell ⟨go,IX*2+1,none⟩ v2).cell? ⟨T,2,none⟩=some (.slice oO L.length oC)/\((X.setCell ⟨go,IX*2,none⟩ v1).setCell ⟨go,IX*2+1,none⟩ v2).cell? ⟨gq,0,none⟩=some (.int .i64 (ix:Int))/\((X.setCell ⟨go,IX*2,none⟩ v1).setCell ⟨go,IX*2+1,none⟩ v2).cell? ⟨gb,0,none⟩=some (.bool s)/\((X.setCell ⟨go,IX*2,none⟩ v1).setCell ⟨go,IX*2+1,none⟩ v2).cell? ⟨gb,1,none⟩=some (.slice p n5 c5))from λX v1 v2 h=>⟨by rw[World.cell?_setCell_far _ _ _ _ (by exact pU.symm),World.cell?_setCell_far _ _ _ _ (by exact pU.symm)];exact h.1,by rw[World.cell?_setCell_far _ _ _ _ (by exact qD.symm),World.cell?_setCell_far _ _ _ _ (by exact qD.symm)];exact h.2.1,by rw[World.cell?_setCell_far _ _ _ _ (by exact hH.symm),World.cell?_setCell_far _ _ _ _ (by exact hH.symm)];exact h.2.2.1,by rw[World.cell?_setCell_far _ _ _ _ (by exact hH.symm),World.cell?_setCell_far _ _ _ _ (by exact hH.symm)];exact h.2.2.2⟩);have hR:=Kh bY;have rH:=Kh oI;have tU:=Kh (HZ.1.keep oG);clear oD pP bY oI X oN oG b0 b1 t2 x0 sP a0 a1 HZ;go_upto_region 22 with(fail)
        go_region_held3 (λw'=>w'.cell? ⟨T,2,none⟩=some (.slice oO L.length oC)/\w'.cell? ⟨gq,0,none⟩=some (.int .i64 (ix:Int))/\w'.cell? ⟨gb,0,none⟩=some (.bool s)/\w'.cell? ⟨gb,1,none⟩=some (.slice p n5 c5))
         (first|with_reducible exact hI|exact tQ.1 _ _ _ hI)
         (fail)
        all_goals go_wp2
        all_goals go_roundw
        all_goals first
         | exact⟨q+1,by omega,by go_num,ZRow.set (k':=CC) (ZRow.keep hR.1 (Below.refl _ wb).drew) IX sE (Za L.length ix sg (mv i a b c d wt) (q+1)) (λc' h1 h2=>⟨h1,dI (by rw[<-rJ.1];exact h2)⟩) (by rw[rJ.1,iC sg _ uE];exact tU.1.keep (Below.refl _ wb).drew),(rH.1.trans (Af go (Below.refl _ wb).drew)).trans (Ki _ go _ _ _ _)⟩
         |(simp[intOf];omega)
       ·obtain rfl:wt+1=q:=by omega
        have rG:=Kh (show ZRow (λk=>if k % L.length=ix/\k / L.length<=wt then sg*mv i a b c d wt (k / L.length)else 0) we go CC CC from gS.1.congr (λc' _=>by
         unfold Za;by_cases h1:c' % L.length=ix/\c' / L.length<=wt
         ·rw[if_pos h1,if_pos ⟨h1.1,by omega⟩]
         ·rw[if_neg h1,if_neg (λh=>h1 ⟨h.1,by omega⟩)]))
        have tM:=Kh (Ae rR.1 pE.1 rR.1.size (Nat.le_of_lt cF.1));go_wp2;go_ret;exact⟨⟨go,rfl,Nat.le_of_lt cF.1,rG.1⟩,tM.1⟩
end
section
open Go.RowKit Eli Tryz
def Ce (C:Nat) (f:Nat->Int) (i q:Nat):Int:=if q<C then f (i*C+q)else 0
theorem Df {C:Nat} {f:Nat->Int} (I:∀j,(f j).natAbs<=16777216) (i q:Nat):(Ce C f i q).natAbs<=16777216:=by
 unfold Ce;split
 ·exact I _
 ·simp
theorem Y9 {C t:Nat} {w:World} {B:Nat} {v:Value} {r:List (Nat×Rat)} (h:OwnT r w B v) (I:Ord C (t+1) r) (U:t<C):lL C w v<C+1 - t:=by
 cases r with
 | nil=>rw[dH h];omega
 | cons y r=>rw[P6 h];have J:=I.1;have O:=I.2.1;omega
theorem gY {x:Rat} (h:x≠0):hq (1 / x)<=hq x:=by
 have O:x.num≠0:=λe=>h (Rat.num_eq_zero.1 e)
 rw[<-Ql 1 x];have I:(1:Rat).num=1:=rfl;have J:(1:Rat).den=1:=rfl;rw[I,J,Int.one_mul,Int.natCast_one,Int.one_mul];exact Dt O (by rw[Int.natAbs_natCast];exact F4 x) (E9 x)
theorem D1 (C:Nat) (f:Nat->Int) (i q:Nat) (h:C<=q):Ce C f i q=0:=by unfold Ce;rw[if_neg (by omega)]
theorem Pc (R C gA oA cA:Nat) (f:Nat->Int) (w:World) (hg:gA<w.heap.size) (hA:∀j,j<R*C->ZE (f j) w gA (oA+j*2)) (hR:R<=1000) (h0:0<C) (hC:C<=72) (oH:R*C<=cA) (hU:cA<=9223372036854775807) (hf:∀j,(f j).natAbs<=16777216):
  Calls prog 48 #[.agg #[.int .i64 R,.int .i64 C,.slice (some ⟨gA,oA,none⟩) (R*C:Nat) cA]] w λe w'=>(∃G,e=.returned (.slice (some ⟨G,0,none⟩) C C)/\w.heap.size<=G/\LeadTab (elim C (Ce C f) R) w' G C w'.heap.size)/\Below w.heap.size w w':=by
 have HA:=Kh hA;have pM:=Kh (And.intro oH hU);have oR:=Kh (λk=>Good.elim (n:=C) (B:=16777216) (by omega) (Df hf) (D1 C f) k);have pW:=Kh (Df (C:=C) hf);have hP:=Kh (Om (n:=C) (B:=16777216) hC (nR _));have HF:=Kh hf;have tB:=kU C (by omega);obtain⟨RC,oW⟩:∃n,R*C=n:=⟨_,rfl⟩
 rw[oW];clear hA oH hU hf;go_enter func48,ntmps48
 go_wp2_with fail
 obtain⟨wm,nX⟩:∃wm,w.alloc (.cells #[.int .i64 R,.int .i64 C,.slice (some ⟨gA,oA,none⟩) RC cA] 99)=wm:=⟨_,rfl⟩
 obtain⟨X0,hS⟩:=Gy w #[.int .i64 R,.int .i64 C,.slice (some ⟨gA,oA,none⟩) RC cA] 99;rw[nX]at X0 hS;have iL:wm.heap.size=w.heap.size+1:=by rw[<-nX];simp
 have HT:=Kh (LeadTab.made wm C);obtain⟨wn,mA⟩:∃wn,wm.alloc (.cells (madeCells #[.slice none 0 0] C) 107)=wn:=⟨_,rfl⟩
 have oY:Below wm.heap.size wm wn:=mA▸(Below.refl _ _).alloc (nR _) _;have nW:wn.heap.size=wm.heap.size+1:=by rw[<-mA];simp
 rw[mA]at HT;rw[nX,mA];obtain⟨G,hG⟩:∃G,w.heap.size+1=G:=⟨_,rfl⟩
 rw[hG]at iL ⊢;obtain⟨gm,qV⟩:∃gm,w.heap.size=gm:=⟨_,rfl⟩
 have oQ:=Kh (show gm<G by omega);have rP:=Kh (show Below w.heap.size w wm from hS);have pP:=Kh (show w.heap.size<=G by omega);rw[iL]at HT oY nW;rw[qV]at X0 ⊢;have HX:=Kh X0;have pK:=Kh oY;have uK:=Kh nW;have rM:=Kh (nT hg hS.size);have rO:=Kh (λj (hj:j<R*C)=>(HA.1 j hj).keep hS);have hQ:=Kh iL;rw[iL]at rM;have pX:=Kh (HT.1.up (Nat.le_of_eq nW.symm));clear X0 nX mA oY nW hS iL tB HA HT hG qV hg;go_loopw [4] (λi wr=>∃k:Nat,k<=R/\i=.int .i64 k/\LeadTab (elim C (Ce C f) k) wr G C wr.heap.size/\Below G wm wr) (λi _=>R - (intOf i).toNat)
 case atStart=>exact⟨0,Nat.zero_le _,rfl,pX.1,pK.1⟩
 case round=>
  obtain⟨k,hk,rfl,oI,hT⟩:=hrel;obtain⟨wi,rfl⟩:∃wi:World,wi=wr:=⟨_,rfl⟩
  have bC:=Kh oI;have bY:=Kh hT;have x0:=(HX.1.below_ hT oQ.1).at_ 0 rfl;have x1:=(HX.1.below_ hT oQ.1).at_ 1 rfl;have x2:=(HX.1.below_ hT oQ.1).at_ 2 rfl;clear oI hT pX pK;by_cases hlt:k<R
  ·obtain⟨KC,nC⟩:∃n,k*C=n:=⟨_,rfl⟩
   have rV:=Kh (show KC+C<=RC by
    have h1:=Nat.mul_le_mul_right C (show k+1<=R by omega);rw[Nat.succ_mul]at h1;omega)
   have e1:(k:Int)*(C:Int)=(KC:Nat):=by rw[<-nC];push_cast;rfl
   have e2:((k:Int)+1)*(C:Int)=((KC+C:Nat)):=by rw[Int.add_mul,e1];push_cast;omega
   have qU:=pM.1;rw[oW]at qU;have tA:=rV.1;have uJ:=Kh nC
   have rN:=Kh (λj (hj:j<C)=>show ZE (Ce C f k j) wm gA (oA+KC*2+j*2)by
    have h:=rO.1 (KC+j) (by rw[oW];omega);rw[show oA+(KC+j)*2=oA+KC*2+j*2 by omega]at h;unfold Ce;rw[if_pos hj,nC];exact h)
   clear nC;go_wp2_with fail
   rw[show KC+C - KC=C by omega];have uS:C<=cA - KC:=by omega
   clear e1 e2 qU tA x0 x1 x2;have rS:=Kh (show ∀U,Below wi.heap.size wi U->Below wm.heap.size wm U from λU J=>hQ.1▸(bY.1.trans (J.mono (hQ.1▸bY.1.size))));go_loopw [5,33] (λv ii w2=>∃j:Nat,j<=C/\ii=.int .i64 j/\OwnT (Q6 (Ce C f k) j) w2 wi.heap.size v/\Below wi.heap.size wi w2) (λ_ ii _=>C - (intOf ii).toNat)
   case atStart=>exact⟨0,Nat.zero_le _,rfl,OwnT.nil _ _,Below.refl _ _⟩
   case round=>
    obtain⟨j,hj,rfl,Y,hD⟩:=hrel;obtain⟨w2,rfl⟩:∃w2:World,w2=wr:=⟨_,rfl⟩
    have bA:=Kh Y;have cF:=Kh hD;clear Y hD;by_cases hjc:j<C
    ·have tT:(j:Int)<(C:Int):=by omega
     obtain⟨s,p,n,c,a0,a1,hz⟩:=(rN.1 j hjc).keep (rS.1 _ cF.1);have HZ:=Kh hz;have HN:=Kh (show n<=1 by rw[<-hz.2.1];exact Bj.2 (by have:=pW.1 k j;omega));clear hz;go_wp2_with fail
     obtain⟨I,pC,X3,cB⟩:=bx1 w2 #[.bool s,.slice p n c] 84;rw[pC];have qE:=Kh X3;have O:=Kh cB;have qS:w2.heap.size<I.heap.size:=by rw[<-pC];simp
     have pL:=Kh qS;clear X3 cB pC a0 a1 qS;refine(Is s p n c _ I (HZ.1.keep O.1).raw (by have:=HN.1;omega)).mono ?_;rintro e w4 ⟨rfl,cD⟩;have cX:=bt O cD;have rQ:=Kh (cF.1.trans (cX.1.mono cF.1.size));have y0:=(qE.1.below_ cD pL.1).at_ 0 rfl;have y1:=(qE.1.below_ cD pL.1).at_ 1 rfl;clear cD;by_cases hz0:Ce C f k j=0
     ·have nD:Int.sign (Ce C f k j)=0:=by rw[hz0];rfl
      have oU:=Kh hz0;rw[nD];clear hz0 nD;go_wp2;go_roundw
      case rel=>exact⟨j+1,by omega,by go_num,by rw[Q6,if_pos oU.1];exact bA.1.keep cX.1,rQ.1⟩
      case measure=>simp[intOf];omega
     ·have nD:(Int.sign (Ce C f k j) != 0)=true:=by
       have:Int.sign (Ce C f k j)≠0:=λe=>hz0 (Int.sign_eq_zero_iff_zero.1 e)
       simpa using this
      have oU:=Kh hz0;clear hz0;go_wp2_with fail
      refine(Xi s p n c _ w4 (HZ.1.keep cX.1) (by have:=HN.1;omega)).mono ?_;rintro e w5 ⟨⟨s4,p4,n4,c4,t4,q4,m4,d4,rfl,qZ⟩,qQ⟩;have sD:=Kh qZ;have nY:=bt cX qQ;have oN:=Kh (cF.1.trans (nY.1.mono cF.1.size));obtain⟨xs,qM,qO⟩:=bA.1.keep nY.1;have oS:=Kh qM;have sH:=Kh qO;have pS:=Kh (D6 (Tl (Ce C f k) j));clear qZ qQ qM qO y0 y1 nD;go_wp2_with (at_builtin;refine B9 NotU32 rfl (.tmp 41) (.tmp 46) _ 110 rfl underlying107 E5 rfl (by decide) wi.heap.size (Q6 (Ce C f k) j).length u5 xs [.int .i64 (j:Int),.bool s4,.slice p4 n4 c4,.bool t4,.slice q4 m4 d4] rfl oS.1 rfl rfl (Vn _ _ _ _ _ _ _ _ _) (by have:=pS.1;omega) (by have:=pS.1;omega) oN.1.size (jA _ _ _ _ _ _ _ _ _) Vm ?_;intro v9 w9 hY hV qP;have sA:=Kh (OwnT.push oS.1 sH.1 j (Ce C f k j:Rat) sD.1 hY hV);have rR:=Kh (oN.1.trans (A7 (Below.refl _ _) oS.1.1 hV (nR _) oN.1.size));clear hY hV qP)
      go_roundw
      case rel=>exact⟨j+1,by omega,by go_num,by rw[Q6,if_neg oU.1];exact sA.1,rR.1⟩
      case measure=>simp[intOf];omega
    ·obtain rfl:C=j:=by omega
     go_wp2;obtain⟨L,hL⟩:∃L,elim C (Ce C f) k=L:=⟨_,rfl⟩
     have HL:=Kh hL;have hO:=Kh (show Eli.Good C 16777216 L from hL▸oR.1 k);rw[hL]at bC;clear hL;go_loopw [5] (λv I=>∃(m t:Nat) (r:List (Nat×Rat)),m<=t/\t<=C/\Fl L m (Q6 (Ce C f k) C)=r/\RowOk C L (Ce C f k) t r/\OwnT r I wi.heap.size v/\Below wi.heap.size wi I) (λv I=>lL C I v)
     case atStart=>exact⟨0,0,_,nR _,Nat.zero_le _,rfl,RowOk.first C L _ (D1 C f k),bA.1,cF.1⟩
     case round=>
      obtain⟨m,t0,r,hm,ht,hr,bE,Y,cB⟩:=hrel;obtain⟨I,rfl⟩:∃I:World,I=wr:=⟨_,rfl⟩
      have O:=Kh cB;have cC:=Kh hr;have sB:=Kh bE;have HM:=Kh (And.intro hm ht);clear cB hr bA cF hm ht;cases r with
      | nil=>
       rcases Y.row with⟨_,rfl⟩ |⟨g,cap,rfl,_,_,_,_,_⟩
       ·have HE:=Kh (show elim C (Ce C f) (k+1)=L by
         rw[elim,HL.1,Hh (by rw[cC.1];rfl) C (nS HM.1.1 HM.1.2),cC.1];rfl)
        clear Y bE;go_wp2;go_roundw
        case rel=>exact⟨k+1,by omega,by go_num,by rw[HE.1];exact(bC.1.keep (nR _) O.1).up O.1.size,bY.1.trans (O.1.mono (hQ.1▸bY.1.size))⟩
        case measure=>simp[intOf];omega
       ·have HE:=Kh (show elim C (Ce C f) (k+1)=L by
         rw[elim,HL.1,Hh (by rw[cC.1];rfl) C (nS HM.1.1 HM.1.2),cC.1];rfl)
        clear Y bE;go_wp2;go_roundw
        case rel=>exact⟨k+1,by omega,by go_num,by rw[HE.1];exact(bC.1.keep (nR _) O.1).up O.1.size,bY.1.trans (O.1.mono (hQ.1▸bY.1.size))⟩
        case measure=>simp[intOf];omega
      | cons x r=>
       have bA:=Kh Y;rcases Y.row with⟨he,_⟩ |⟨g,cap,rfl,qT,sY,sZ,hH,pB⟩
       ·cases he
       have qC:=Kh pB;obtain⟨a0,s,p,n,c,t,q,m1,d,a1,a2,a3,a4,hq⟩:=pB.val 0 x rfl;rw[Nat.zero_mul]at a0 a1 a2 a3 a4;rw[Nat.zero_add]at a1 a2 a3 a4;have pV:=Kh (show Qs I s p n c t q m1 d x.2 from hq);have mB:x.1<C:=bE.1.2.1;have qD:=Kh bE.1.2.2.1;have nB:=Kh (bE.size hO.1 (pW.1 k)).1;have qA:=Kh ((bC.1.keep (nR _) O.1).up O.1.size);obtain⟨lv,l0,hI,hW⟩:=qA.1.val x.1 mB;have qB:=Kh hI;have pR:=Kh (show(x :: r).length<=72 from nS (D6 bE.1) (by omega));rw[List.length_cons]at qT ⊢;have uY:(x.1:Int)<(C:Int):=by omega
       have tS:(0:Int)<((r.length:Int)+1):=by omega
       have uV:(((r.length:Nat):Int)+1==0)=false:=by simp;omega
       have sU:G<I.heap.size:=qA.1.stk.1;have pN:=Kh (And.intro qT sY);clear Y pB hq hI;by_cases hL0:L x.1=[]
       ·obtain rfl:=hW hL0
        have rX:=Kh hL0;clear hL0 hW bE;go_wp2_with fail
        have oF:=Kh (show Fl L C (Q6 (Ce C f k) C)=x :: r by rw[Hh (by rw[cC.1];exact I5 rX.1) C (nS HM.1.1 HM.1.2),cC.1]);have HE:=Kh (show elim C (Ce C f) (k+1)=λj=>if j=x.1 then scl (x :: r)else L j by rw[elim,HL.1,oF.1];rfl);have rU:=Kh (gY qD.1);have pU:=Kh (show hq x.2<=80 from nS (nB.1 x (List.mem_cons_self ..)) hP.1);have bB:=Kh (show ∀U,Below I.heap.size I U->(U.cell? ⟨g,1,none⟩=some (.bool s)/\U.cell? ⟨g,2,none⟩=some (.slice p n c)/\U.cell? ⟨g,3,none⟩=some (.bool t)/\U.cell? ⟨g,4,none⟩=some (.slice q m1 d))from λU J=>⟨cell_next J a1,cell_next J a2,cell_next J a3,cell_next J a4⟩);clear HM cC oF a0 a1 a2 a3 a4 l0;go_cut [8,9]from 78 to 86 (λv8 v9 wd=>∃Rv s4 p4 n4 c4 t4 q4 m4 d4,v8=.pointer (some ⟨Rv,0,none⟩)/\wd.cell? ⟨Rv,0,none⟩=some (.bool s4)/\wd.cell? ⟨Rv,1,none⟩=some (.slice p4 n4 c4)/\wd.cell? ⟨Rv,2,none⟩=some (.bool t4)/\wd.cell? ⟨Rv,3,none⟩=some (.slice q4 m4 d4)/\Qs wd s4 p4 n4 c4 t4 q4 m4 d4 (1 / x.2)/\Below I.heap.size I wd/\I.heap.size<=Rv)
        case first=>
         go_region_held3 (λU=>U.cell? ⟨g,1,none⟩=some (.bool s)/\U.cell? ⟨g,2,none⟩=some (.slice p n c)/\U.cell? ⟨g,3,none⟩=some (.bool t)/\U.cell? ⟨g,4,none⟩=some (.slice q m1 d))
          (first|exact bB.1 _ (by first|exact(Below.refl _ I).drew|exact Below.refl _ I|exact((Below.refl _ I).drew).alloc (nR _) _|exact(Below.refl _ I).alloc (nR _) _|exact((Below.refl _ I).alloc (nR _) _).drew)|with_reducible exact bB.1 _ Z|exact bB.1 _ (Z.alloc cG _)|with_reducible exact bB.1 _ (As Z sV.1 _ _ _ _)|with_reducible exact bB.1 _ (As Z (nR _) _ _ _ _)|with_reducible exact bB.1 _ (As (Z.alloc cG _) cG _ _ _ _) |(exfalso;assumption))
          (first
           |(go_at_call 49;refine(En 1 _ (by omega) (by omega)).mono ?_;rintro e w4 ⟨⟨s3,p3,n3,c3,t3,q3,m3,d3,rfl,rD⟩,hD⟩;have V:Below I.heap.size I w4:=Below.trans (show Below I.heap.size I _ from(by first|exact(Below.refl _ I).drew|exact Below.refl _ I|exact((Below.refl _ I).drew).alloc (nR _) _|exact(Below.refl _ I).alloc (nR _) _|exact((Below.refl _ I).alloc (nR _) _).drew)) (Below.mono hD (Below.size (show Below I.heap.size I _ from(by first|exact(Below.refl _ I).drew|exact Below.refl _ I|exact((Below.refl _ I).drew).alloc (nR _) _|exact(Below.refl _ I).alloc (nR _) _|exact((Below.refl _ I).alloc (nR _) _).drew))));have Z:=V;have cG:=V.size;(first|have fa:=K4 (W:=I.drew) I.heap.size rfl hD|have fa:=K4 (W:=I) I.heap.size rfl hD|skip))
           |(go_at_call 96;refine(cK s3 p3 n3 c3 t3 q3 m3 d3 1 s p n c t q m1 d x.2 _ (by first|exact rD|exact rD.keep ((Below.refl _ _).alloc (nR _) _)) (pV.1.keep (show Below I.heap.size I _ from(by first|exact V|exact V.alloc V.size _))) (by rw[Yk];omega) (by have:=pU.1;omega) qD.1).mono ?_;rintro e w5 ⟨⟨s4,p4,n4,c4,t4,q4,m4,d4,rfl,rE⟩,cB⟩;have hE:Below I.heap.size I w5:=Below.trans (show Below I.heap.size I _ from(by first|exact V|exact V.alloc V.size _)) (Below.mono cB (Below.size (show Below I.heap.size I _ from(by first|exact V|exact V.alloc V.size _))));have Z:=hE;have cG:=hE.size;(first|have fa:=Jb (by first|exact cB) fa|have fa:=K4 w4.heap.size rfl cB|skip);have sV:=Kh (show I.heap.size<=w4.heap.size from V.size)))
         all_goals go_wp2
         all_goals go_meet
         all_goals first
          | exact⟨w5.heap.size,s4,p4,n4,c4,t4,q4,m4,d4,rfl,(Blk.new w5 86 #[.bool s4,.slice p4 n4 c4,.bool t4,.slice q4 m4 d4]).at_ 0 rfl,(Blk.new w5 86 #[.bool s4,.slice p4 n4 c4,.bool t4,.slice q4 m4 d4]).at_ 1 rfl,(Blk.new w5 86 #[.bool s4,.slice p4 n4 c4,.bool t4,.slice q4 m4 d4]).at_ 2 rfl,(Blk.new w5 86 #[.bool s4,.slice p4 n4 c4,.bool t4,.slice q4 m4 d4]).at_ 3 rfl,rE.keep ((Below.refl _ _).alloc (nR _) _),hE.alloc hE.size _,hE.size⟩
          |(obtain⟨E0,E1,E2,E3,tC⟩:=Cd fa.2.2.2.2.2.2.2.2 rE rfl;exact⟨_,s4,p4,n4,c4,t4,q4,m4,d4,rfl,E0,E1,E2,E3,tC,As hE (by first|exact nR _|exact V.size) _ _ _ _,by first|exact nR _|exact V.size⟩)
        case rest=>
         obtain⟨Rv,s4,p4,n4,c4,t4,q4,m4,d4,rfl,e0,e1,e2,e3,hz,oX,sW⟩:=hcut;obtain⟨wd,rfl⟩:∃wd:World,wd=wc:=⟨_,rfl⟩
         have sI:=Kh hz;have oO:=Kh oX;have gU:=Kh (show Rv≠g by omega);have mE:=Kh (And.intro e0 (And.intro e1 (And.intro e2 e3)));have oG:=Kh (show TRow (Ex (1 / x.2) 0 (x :: r)) wd g by rw[Se];exact qC.1.keep oX);have rZ:=Kh (λy (hy:y∈x :: r)=>show hq y.2<=80 from nS (nB.1 y hy) hP.1);clear hz oX sW e0 e1 e2 e3 bB qC;go_wp2;go_loopw [89] (λii w5=>∃j:Nat,j<=(x :: r).length/\ii=.int .i64 j/\TRow (Ex (1 / x.2) j (x :: r)) w5 g/\wd.grownBy w5 (some g)/\I32 wd w5) (λii _=>r.length+1 - (intOf ii).toNat)
         case atStart=>exact⟨0,Nat.zero_le _,rfl,oG.1,Af g (Below.refl _ _),I32.refl _⟩
         case round=>
          obtain⟨j,hj,rfl,oJ,qW,qL⟩:=hrel;obtain⟨w5,rfl⟩:∃w5:World,w5=wr:=⟨_,rfl⟩
          have dC:=Kh oJ;have gS:=Kh qW;have oM:=Kh qL;clear oJ qW qL oG;by_cases hjr:j<(x :: r).length
          ·obtain⟨y,hy⟩:∃y,(x :: r)[j]?=some y:=⟨_,List.getElem?_eq_getElem hjr⟩
           have tD:y∈x :: r:=List.mem_of_getElem? hy;obtain⟨_,s',p',n',c',t',q',m',d',b1,b2,b3,b4,rA⟩:=dC.1.elem hy;have sE:=Kh (show Qs w5 s' p' n' c' t' q' m' d' y.2 from rA);have z0:=gS.1.cell mE.1.1 (λe=>by injection e with e;exact gU.1 e);have z1:=gS.1.cell mE.1.2.1 (λe=>by injection e with e;exact gU.1 e);have z2:=gS.1.cell mE.1.2.2.1 (λe=>by injection e with e;exact gU.1 e);have z3:=gS.1.cell mE.1.2.2.2 (λe=>by injection e with e;exact gU.1 e);have rY:=Kh (λU (J:Below w5.heap.size w5 U)=>Cx s4 p4 n4 c4 t4 q4 m4 d4 (1 / x.2) s' p' n' c' t' q' m' d' y.2 U ((sI.1.i32 oM.1).keep J) (sE.1.keep J) (by have:=rU.1;have:=pU.1;omega) (by have:=rZ.1 y tD;omega));have hZ:=dC.1;have uX:(Ex (1 / x.2) j (x :: r)).length=r.length+1:=by rw[Ih];rfl
           have qY:j<r.length+1:=hjr;have uU:(j:Int)<(r.length:Int)+1:=by omega
           have uW:g≠Rv:=λe=>gU.1 e.symm
           have tV:=gU.1;clear rA;go_upto_region 19 with(fail)
           refine J2 (λW=>W.cell? ⟨Rv,0,none⟩=some (.bool s4)/\W.cell? ⟨Rv,1,none⟩=some (.slice p4 n4 c4)/\W.cell? ⟨Rv,2,none⟩=some (.bool t4)/\W.cell? ⟨Rv,3,none⟩=some (.slice q4 m4 d4)/\W.cell? ⟨g,j*5+1,none⟩=some (.bool s')/\W.frozen? ⟨g,j*5+1,none⟩=false/\W.cell? ⟨g,j*5+2,none⟩=some (.slice p' n' c')/\W.frozen? ⟨g,j*5+2,none⟩=false/\W.cell? ⟨g,j*5+3,none⟩=some (.bool t')/\W.frozen? ⟨g,j*5+3,none⟩=false/\W.cell? ⟨g,j*5+4,none⟩=some (.slice q' m' d')/\W.frozen? ⟨g,j*5+4,none⟩=false) (λW J=>⟨Aq J z0,Aq J z1,Aq J z2,Aq J z3,Aq J b1,Ab J (by rw[b1];rfl) (hZ.free _ (by omega)),Aq J b2,Ab J (by rw[b2];rfl) (hZ.free _ (by omega)),Aq J b3,Ab J (by rw[b3];rfl) (hZ.free _ (by omega)),Aq J b4,Ab J (by rw[b4];rfl) (hZ.free _ (by omega))⟩) (λsF hHeld0=>?_);clear z0 z1 z2 z3 b1 b2 b3 b4 hZ;refine Aj 0 ?_;refine Aj 1 ?_;refine Aj 2 ?_;refine Aj 3 ?_;refine Aj 4 ?_;refine Aj 5 ?_;refine Aj 6 ?_;refine Aj 7 ?_;refine G6 8 rfl (λK hK=>?_);focus(go_simp;refine(rY.1 _ (Below.refl _ w5).drew).mono ?_;rintro e w6 ⟨⟨s6,p6,n6,c6,t6,q6,m6,d6,rfl,rF⟩,qR⟩;have mD:=Kh ((Below.refl _ w5).drew.trans qR:Below w5.heap.size w5 w6);have pA:=dC.1.keep mD.1;have pT:=Kh (pA.scl hy rF);have rT:=Kh (show ∀v0 v1 v2 v3,wd.grownBy ((((w6.setCell ⟨g,j*5+1,none⟩ v0).setCell ⟨g,j*5+2,none⟩ v1).setCell ⟨g,j*5+3,none⟩ v2).setCell ⟨g,j*5+4,none⟩ v3) (some g)from λ_ _ _ _=>Vv gS.1 mD.1);have H6:=Kh ((oM.1.trans (I32.below mD.1)).trans (I32.putT (k:=j) pA.stk s6 t6 p6 q6 n6 c6 m6 d6).2);clear rF qR pA;(first|with_reducible refine hK.out _ _ ?_ (λhHeld1=>?_) |(go_wp2_with fail;with_reducible refine hK.out _ _ ?_ (λhHeld1=>?_))))
           focus((try dsimp only);exact sF.1 _ mD.1)
           focus(clear hK K;(try simp only[Act.put,Bo,Bt,Bp]))
           refine Aj 9 ?_;refine Aj 10 ?_;refine Js 11 rfl (λK hK=>?_);go_simp
           refine hK.out _ _ ?_;clear hK K
           (try simp only[Act.put,Bo,Bt,Bp])
           all_goals go_wp2
           all_goals go_roundw
           all_goals first
            | exact⟨j+1,qY,by go_num,pT.1,rT.1 _ _ _ _,H6.1⟩
            |(simp[intOf];omega)
          ·obtain rfl:(x :: r).length=j:=by omega
           have oB:=Kh (show TRow (scl (x :: r)) w5 g by
            have h:=dC.1;rw[Vu]at h;exact h)
           have f0:=(oB.1.val 0 (x.1,1 / x.2*x.2) rfl).1;rw[Nat.zero_mul]at f0;have oP:=Kh (show Below wi.heap.size wi w5 from Ae (O.1.trans (oO.1.mono O.1.size)) gS.1 (nS O.1.size oO.1.size) sZ);have pJ:=Kh (show I32 wi w5 from((I32.below (O.1.trans (oO.1.mono O.1.size)))).trans oM.1);have oT:=Kh ((bC.1.next pJ.1 oP.1 bC.1.stk.1 (nR _)).up oP.1.size);obtain⟨v5,l5,_,_⟩:=oT.1.val x.1 mB;have uZ:=oT.1.free x.1 mB;have rB:(scl (x :: r)).length=r.length+1:=by rw[scl,List.length_map];rfl
           have oZ:=oT.1.put (l:=scl (x :: r)) mB (by rw[scl];intro e;cases e) (oB.1.tl (cap:=cap) (by rw[scl,List.length_map];exact pN.1.1) pN.1.2);rw[rB]at oZ;have sC:=Kh oZ;clear oZ rB;go_wp2;go_roundw
           case rel=>exact⟨k+1,by omega,by go_num,by rw[HE.1];exact sC.1.up (Nat.le_of_eq (by simp)),(bY.1.trans (oP.1.mono (hQ.1▸bY.1.size))).setCell (p:=⟨G,x.1,none⟩) (nR _) _⟩
           case measure=>simp[intOf];omega
       ·have qN:=hO.1.head x.1
        obtain⟨b,J⟩:=qN.resolve_left hL0;have nA:=Kh (bE.step hO.1 hL0);have hI:=qB.1;rw[J]at hI;obtain⟨gl,ol,cl,rfl,uR,_,_,_,_⟩:=hI.cons;clear hI hW bE hL0 qN;go_wp2_with fail
        have pY:=Kh (λW (J:Below I.heap.size I W)=>(bA.1.tl.keep (nR _) J).up J.size);have pZ:=Kh (λW (J:Below I.heap.size I W)=>(qB.1.keep (nR _) J).up J.size);have oE:=Kh (show Sml (top C 16777216) x.2 (x :: r) (L x.1)from⟨nB.1 x (List.mem_cons_self ..),nB.1,hO.1.size x.1⟩);have pQ:=Kh (show(L x.1).length<=72 from nS (D6 (hO.1.ord x.1)) (by omega));have hN:=Kh (λW (J:Below I.heap.size I W)=>bZ _ _ (x :: r) (L x.1) s p n c t q m1 d x.2 (top C 16777216) W (pY.1 W J) (pZ.1 W J) (pV.1.keep J) oE.1 (by have:=hP.1;omega) (by have:=pQ.1;have:=pR.1;omega));rw[J]at hN;have tR:=hH;clear pY pZ oE pQ;have bB:=Kh (show ∀U,Below I.heap.size I U->(U.cell? ⟨g,0,none⟩=some (.int .i64 (x.1:Int))/\U.cell? ⟨g,1,none⟩=some (.bool s)/\U.cell? ⟨g,2,none⟩=some (.slice p n c)/\U.cell? ⟨g,3,none⟩=some (.bool t)/\U.cell? ⟨g,4,none⟩=some (.slice q m1 d)/\U.cell? ⟨G,x.1,none⟩=some (.slice (some ⟨gl,ol,none⟩) (b.length+1) (cl+1)))from λU J=>⟨(J.cell (p:=⟨g,0,none⟩) (hH)).trans a0,(J.cell (p:=⟨g,1,none⟩) (hH)).trans a1,(J.cell (p:=⟨g,2,none⟩) (hH)).trans a2,(J.cell (p:=⟨g,3,none⟩) (hH)).trans a3,(J.cell (p:=⟨g,4,none⟩) (hH)).trans a4,(J.cell (p:=⟨G,x.1,none⟩) (sU)).trans l0⟩);have Z:Below I.heap.size I I.drew:=(Below.refl _ I).drew;have cG:I.heap.size<=I.heap.size:=nR _;have sX:I.drew.cell? ⟨g,0,none⟩=some (.int .i64 (x.1:Int))/\I.drew.cell? ⟨g,1,none⟩=some (.bool s)/\I.drew.cell? ⟨g,2,none⟩=some (.slice p n c)/\I.drew.cell? ⟨g,3,none⟩=some (.bool t)/\I.drew.cell? ⟨g,4,none⟩=some (.slice q m1 d)/\I.drew.cell? ⟨G,x.1,none⟩=some (.slice (some ⟨gl,ol,none⟩) (b.length+1) (cl+1)):=bB.1 _ Z
        go_region_held3 (λU=>U.cell? ⟨g,0,none⟩=some (.int .i64 (x.1:Int))/\U.cell? ⟨g,1,none⟩=some (.bool s)/\U.cell? ⟨g,2,none⟩=some (.slice p n c)/\U.cell? ⟨g,3,none⟩=some (.bool t)/\U.cell? ⟨g,4,none⟩=some (.slice q m1 d)/\U.cell? ⟨G,x.1,none⟩=some (.slice (some ⟨gl,ol,none⟩) (b.length+1) (cl+1)))
         (first|with_reducible exact sX|with_reducible exact bB.1 _ Z|exact bB.1 _ (Z.alloc cG _))
         (first
          |(go_at_call 95;refine(hN.1 _ (by first|exact(Below.refl _ I).drew|exact Below.refl _ I)).mono ?_;rintro e w4 ⟨⟨v',rfl,hX⟩,cD⟩;have nZ:=Kh (show Below I.heap.size I w4 from(by first|exact(Below.refl _ I).drew.trans cD|exact cD));have oD:=Kh (hX.base (B':=wi.heap.size) (nS O.1.size (Nat.le_succ _)));clear hX cD;have Z:=nZ.1;have cG:I.heap.size<=w4.heap.size:=Z.size))
        all_goals go_wp2
        all_goals go_roundw
        all_goals first
         | exact⟨m+1,x.1+1,Sb L (x :: r),by have:=HM.1.1;have:=sB.1.1.1;omega,by omega,by rw[Fl,cC.1],nA.1.1,by rw[nA.1.2.1,J];exact oD.1,O.1.trans (nZ.1.mono O.1.size)⟩
         |(have h1:=P6 bA.1 (C:=C);have h2:=Y9 (C:=C) (t:=x.1) (r:=Sb L (x :: r)) (by rw[nA.1.2.1,J];exact oD.1) nA.1.1.1 mB;exact Nat.lt_of_lt_of_eq h2 h1.symm)
  ·obtain rfl:k=R:=by omega
   go_wp2;go_ret;exact⟨⟨G,rfl,pP.1,bC.1⟩,rP.1.trans (bY.1.mono pP.1)⟩
end
end Go.Proofs.YtenlbhlllgppmaaGreatDoor
