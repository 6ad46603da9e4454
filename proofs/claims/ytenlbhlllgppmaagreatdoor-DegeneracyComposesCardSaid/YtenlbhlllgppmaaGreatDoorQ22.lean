/- Contract of moved: a symbol times a matrix, as a vector. -/
import Derived.Test.YtenlbhlllgppmaaGreatDoorQ21
set_option linter.unusedSimpArgs false
set_option maxRecDepth 100000
set_option maxHeartbeats 8000000
namespace Go.Proofs.YtenlbhlllgppmaaGreatDoor
section
open Go.RowKit Tryz
def Xd (m ix:Nat) (sg:Int) (h:Nat->Int) (k c:Nat):Int:=if c % m=ix/\c / m<k then sg*h (c / m)else 0
theorem Xe (m H:Nat) (sg:Int) (h:Nat->Int) (c:Nat):Xd m H sg h 0 c=0:=by unfold Xd;rw[if_neg (λh=>Nat.not_lt_zero _ h.2)]
theorem aR {m H:Nat} {sg:Int} {h:Nat->Int} {k c:Nat} (I:c≠k*m+H):Xd m H sg h k c=Xd m H sg h (k+1) c:=by
 unfold Xd;by_cases h1:c % m=H
 ·by_cases h2:c / m<k
  ·rw[if_pos ⟨h1,h2⟩,if_pos ⟨h1,by omega⟩]
  ·have J:c / m≠k:=λe=>I (by have:=Nat.div_add_mod c m;rw[e,h1,Nat.mul_comm]at this;exact this.symm)
   rw[if_neg (λh=>h2 h.2),if_neg (λh=>by have:=h.2;omega)]
 ·rw[if_neg (λh=>h1 h.1),if_neg (λh=>h1 h.1)]
theorem eS {m H:Nat} (sg:Int) (h:Nat->Int) {k:Nat} (I:H<m):Xd m H sg h (k+1) (k*m+H)=sg*h k:=by
 unfold Xd;have J:(k*m+H) % m=H:=by rw[Nat.mul_comm,Nat.mul_add_mod,Nat.mod_eq_of_lt I]
 have O:(k*m+H) / m=k:=by rw[Nat.mul_comm,Nat.mul_add_div (by omega),Nat.div_eq_of_lt I,Nat.add_zero]
 rw[if_pos ⟨J,by omega⟩,O]
theorem Vy (T B n wt:Nat) (L:List Nat) (f:Nat->Nat×Int) (i j:Nat) (a b c d:Int) (w:World) (h:WorldAt w T B n wt L f) (hB:B<=w.heap.size) (h0:0<n) (hn:n<=120) (rL:wt<=22) (hj:j<L.length) (hL:L.length<=14400) (pF:∀x,x∈L->x<n*n) (hf:TabOk L.length f)
  (ha:-1073741824<=a) (pI:a<=1073741824) (V:-1073741824<=b) (pJ:b<=1073741824) (hc:-1073741824<=c) (pM:c<=1073741824) (hd:-1073741824<=d) (pN:d<=1073741824):
  Calls prog 93 #[.pointer (some ⟨T,0,none⟩),.int .i64 i,.int .i64 j,.agg #[.int .i64 a,.int .i64 b,.int .i64 c,.int .i64 d]] w λe w'=>(∃g,e=.returned (.slice (some ⟨g,0,none⟩) (((wt+1)*L.length:Nat)) (((wt+1)*L.length:Nat)))/\w.heap.size<=g/\ZRow (L8 n wt L f i j (a,b,c,d)) w' g ((wt+1)*L.length) ((wt+1)*L.length))/\Below w.heap.size w w':=by
 obtain⟨CC,hR⟩:∃x,(wt+1)*L.length=x:=⟨_,rfl⟩
 have tH:CC<=331200:=by rw[<-hR];exact Nat.mul_le_mul (by omega:wt+1<=23) hL
 obtain⟨aj,lE⟩:∃x,L[j]?=some x:=⟨_,List.getElem?_eq_getElem hj⟩
 have lV:=pF aj (List.mem_of_getElem? lE);have pQ:L.getD j 0=aj:=by rw[List.getD_eq_getElem?_getD,lE];rfl
 obtain⟨u,hu⟩:∃x,aj / n=x:=⟨_,rfl⟩
 obtain⟨v,hv⟩:∃x,aj % n=x:=⟨_,rfl⟩
 have tN:u<n:=by rw[<-hu];exact Nat.div_lt_of_lt_mul lV
 have tO:v<n:=by rw[<-hv];exact Nat.mod_lt _ h0
 have hP:∀x:Int,∃r:Nat,x % (n:Int)=r/\r<n:=λx=>⟨(x % n).toNat,by have:=Int.emod_nonneg x (show(n:Int)≠0 by omega);omega,by have:=Int.emod_nonneg x (show(n:Int)≠0 by omega);have:=Int.emod_lt_of_pos x (show(0:Int)<n by omega);omega⟩
 obtain⟨ra,hZ,sI⟩:=hP a;obtain⟨rb,aN,sJ⟩:=hP b;obtain⟨rc,nE,sK⟩:=hP c;obtain⟨rd,nF,sL⟩:=hP d;obtain⟨X,hX⟩:∃x:Nat,u*ra+v*rc=x:=⟨_,rfl⟩
 obtain⟨Y,hY⟩:∃x:Nat,u*rb+v*rd=x:=⟨_,rfl⟩
 obtain⟨pp,lJ⟩:∃pp,f ((((X:Int) % n).toNat)*n+(((Y:Int) % n).toNat))=pp:=⟨_,rfl⟩
 have mY:=hf ((((X:Int) % n).toNat)*n+(((Y:Int) % n).toNat));rw[lJ]at mY
 have oK:=Kh (show L8 n wt L f i j (a,b,c,d)=λk=>if pp.2=0 then 0 else if k % L.length=pp.1/\k / L.length<=wt then pp.2*mv i a b c d wt (k / L.length)else 0 by
  unfold L8;dsimp only;rw[pQ,hu,hv,hZ,aN,nE,nF];have e1:((u:Nat):Int)*(ra:Int)+(v:Int)*(rc:Int)=(X:Nat):=by rw[<-hX];push_cast;rfl
  have e2:((u:Nat):Int)*(rb:Int)+(v:Int)*(rd:Int)=(Y:Nat):=by rw[<-hY];push_cast;rfl
  rw[e1,e2,lJ])
 rw[oK.1,hR];have oF:=Kh (λW (V:Below w.heap.size w W)=>hR▸Jv T B n wt L f W (h.keep hB V) rL hL);have lA:=Kh (λW (V:Below w.heap.size w W)=>hZ▸Hv T B n wt L f a W (h.keep hB V) h0 hn);have hI:=Kh (λW (V:Below w.heap.size w W)=>aN▸Hv T B n wt L f b W (h.keep hB V) h0 hn);have mE:=Kh (λW (V:Below w.heap.size w W)=>nE▸Hv T B n wt L f c W (h.keep hB V) h0 hn);have mF:=Kh (λW (V:Below w.heap.size w W)=>nF▸Hv T B n wt L f d W (h.keep hB V) h0 hn);have qL:=Kh (λW (V:Below w.heap.size w W)=>lJ▸cO T B n wt L f X Y W (h.keep hB V) (kU hB V.size) h0 hn);have lB:=Kh (λW (V:Below w.heap.size w W)=>h.keep hB V);have rH:=W9 CC (by omega);have oP:=Kh mY;have qK:=Kh lE;have HU:=Kh (And.intro hu hv);have oV:=Kh (And.intro hX hY);have Z:=Kh (And.intro (And.intro ha pI) (And.intro (And.intro V pJ) (And.intro (And.intro hc pM) (And.intro hd pN))));have qO:=Kh hR;clear h hf ha pI V pJ hc pM hd pN mY lE pQ hu hv hP hZ aN nE nF hX hY lJ lV hR pF oK;go_enter func93,ntmps93
 go_wp2_with fail
 obtain⟨w0,pY,X0,mR⟩:=bx1 w #[.int .i64 a,.int .i64 b,.int .i64 c,.int .i64 d] 63;rw[pY];refine(oF.1 w0 mR).mono ?_;rintro e w1 ⟨rfl,m1,rfl⟩;have mS:Below w.heap.size w (w0.drewN m1):=Aa mR m1;have X1:=X0.below_ (Aa (Below.refl _ w0) m1) X0.lt;generalize w0.drewN m1=w1 at mS X1 ⊢;have qM:=Kh mS;have oS:=Kh X1;clear pY X0 mR X1 mS oF;go_wp2_with fail
 have lK:=ZRow.made (λ_=>0) w1 CC;obtain⟨wz,nG⟩:∃wz,w1.alloc (.cells (madeCells #[.bool false,.slice none 0 0] (CC*2)) 84)=wz:=⟨_,rfl⟩
 have pL:Below w1.heap.size w1 wz:=nG▸(Below.refl _ _).alloc (kT _) _;rw[nG]at lK ⊢;obtain⟨go,lH⟩:∃g,w1.heap.size=g:=⟨_,rfl⟩
 have aT:=Kh (show w.heap.size<go by have:=oS.1.lt;omega);have oE:=Kh (show Below go w1 wz from lH▸pL);rw[lH]at lK ⊢;have oQ:=Kh lK;have O:=Kh (show ∀W,Below go w1 W->Below w.heap.size w W from λW V=>qM.1.trans (V.mono (Nat.le_of_lt aT.1)));have mI:=Kh (show ∀W,Below go w1 W->Blk W w.heap.size 63 #[.int .i64 a,.int .i64 b,.int .i64 c,.int .i64 d]from λW V=>oS.1.below_ V aT.1);have sX:=Kh lH;clear lK nG pL lH rH;go_loopw [27] (λii wr=>∃k:Nat,k<=CC/\ii=.int .i64 k/\ZRow (λ_=>0) wr go CC k/\Below go w1 wr) (λii _=>CC - (intOf ii).toNat)
 case atStart=>exact⟨0,Nat.zero_le _,rfl,oQ.1,oE.1⟩
 case round=>
  obtain⟨k,hk,rfl,bE,pK⟩:=hrel;obtain⟨w2,rfl⟩:∃w2:World,w2=wr:=⟨_,rfl⟩
  have bC:=Kh bE;have hD:=Kh pK;clear bE pK oQ oE;by_cases hlt:k<CC
  ·have mX:(k:Int)<(CC:Int):=by omega
   go_wp2_with fail
   refine(Gc 0 w2 (by omega) (by omega)).mono ?_;rintro e w3 ⟨⟨s3,p3,n3,c3,rfl,qB⟩,dE⟩;have gS:=ZRow.keep bC.1 dE;have qQ:=Kh (ZRow.set (k':=k+1) gS k hlt (λ_=>0) (λi' h1 h2=>⟨by omega,rfl⟩) qB);have aL:=Kh (hD.1.trans (dE.mono (Nat.le_of_lt bC.1.sts.1)));obtain⟨u0,rK⟩:=kX (gS.has (k*2) (by omega));obtain⟨u2,hu2⟩:=kX (gS.has (k*2+1) (by omega));have f0:=gS.free (k*2) (by omega);have f1:=gS.free (k*2+1) (by omega);clear qB dE gS;go_wp2;go_roundw
   case rel=>exact⟨k+1,by omega,by go_num,qQ.1,Cr aL.1 (kT _)⟩
   case measure=>simp[intOf];omega
  ·obtain rfl:CC=k:=by omega
   have pZ:=lB.1 w2 (O.1 w2 hD.1);obtain⟨pl,cl,t2,pX⟩:=pZ.c2;rcases pX with⟨rI,_⟩ |⟨gL,rV,e,_,hx⟩
   ·rw[rI]at hj;simp at hj
   cases e;obtain⟨p0,p1,_⟩:=hx j aj qK.1;rw[HU.1.1]at p0;rw[HU.1.2]at p1;have tI:(j:Int)<(L.length:Int):=by omega
   have X2:=mI.1 w2 hD.1;have x0:=X2.at_ 0 rfl;have x1:=X2.at_ 1 rfl;have x2:=X2.at_ 2 rfl;have x3:=X2.at_ 3 rfl;clear pZ hx X2;go_wp2_with fail
   go_quiet (fail)
   generalize hw3:w2.drewN nq=w3;have dE:Below w2.heap.size w2 w3:=hw3▸Aa (Below.refl _ _) nq;have aL:=Kh (hD.1.trans (dE.mono (Nat.le_of_lt bC.1.sts.1)));have cF:=Kh (ZRow.keep bC.1 dE);have X2:=mI.1 w3 aL.1;have x0:=X2.at_ 0 rfl;have x1:=X2.at_ 1 rfl;have x2:=X2.at_ 2 rfl;have x3:=X2.at_ 3 rfl;have hZ:=lA.1 w3 (O.1 w3 aL.1);have lA:=Kh (λm=>lA.1 (w3.drewN m) (O.1 _ (Aa aL.1 m)));have hI:=Kh (λm=>hI.1 (w3.drewN m) (O.1 _ (Aa aL.1 m)));have mE:=Kh (λm=>mE.1 (w3.drewN m) (O.1 _ (Aa aL.1 m)));have mF:=Kh (λm=>mF.1 (w3.drewN m) (O.1 _ (Aa aL.1 m)));clear hw3 dE X2 p0 p1 t2 hD bC hZ;go_wp2_with fail
   go_quiet (first|with_reducible exact Calls.quiet_of_same (lA.1 _)|with_reducible exact Calls.quiet_of_same (hI.1 _)|with_reducible exact Calls.quiet_of_same (mE.1 _)|with_reducible exact Calls.quiet_of_same (mF.1 _))
   generalize hw4:w3.drewN nq=w4;have mT:Below w3.heap.size w3 w4:=hw4▸Aa (Below.refl _ _) nq;have lX:=Kh (aL.1.trans (mT.mono (Nat.le_of_lt cF.1.sts.1)));have cG:=Kh (ZRow.keep cF.1 mT);have pG:(u:Int)*(ra:Int)+(v:Int)*(rc:Int)=(X:Nat):=by rw[<-oV.1.1];push_cast;rfl
   have pH:(u:Int)*(rb:Int)+(v:Int)*(rd:Int)=(Y:Nat):=by rw[<-oV.1.2];push_cast;rfl
   obtain⟨S1,mM⟩:∃x:Nat,u*ra=x:=⟨_,rfl⟩
   obtain⟨S2,mN⟩:∃x:Nat,v*rc=x:=⟨_,rfl⟩
   obtain⟨S3,mO⟩:∃x:Nat,u*rb=x:=⟨_,rfl⟩
   obtain⟨S4,mP⟩:∃x:Nat,v*rd=x:=⟨_,rfl⟩
   have k1:(u:Int)*(ra:Int)=(S1:Nat):=by rw[<-mM];push_cast;rfl
   have k2:(v:Int)*(rc:Int)=(S2:Nat):=by rw[<-mN];push_cast;rfl
   have k3:(u:Int)*(rb:Int)=(S3:Nat):=by rw[<-mO];push_cast;rfl
   have k4:(v:Int)*(rd:Int)=(S4:Nat):=by rw[<-mP];push_cast;rfl
   have l1:S1<=14400:=by rw[<-mM];exact Nat.mul_le_mul (by omega:u<=120) (by omega:ra<=120)
   have l2:S2<=14400:=by rw[<-mN];exact Nat.mul_le_mul (by omega:v<=120) (by omega:rc<=120)
   have l3:S3<=14400:=by rw[<-mO];exact Nat.mul_le_mul (by omega:u<=120) (by omega:rb<=120)
   have l4:S4<=14400:=by rw[<-mP];exact Nat.mul_le_mul (by omega:v<=120) (by omega:rd<=120)
   rw[k1,k2]at pG;rw[k3,k4]at pH;clear hw4 mT x0 x1 x2 x3 mM mN mO mP cF aL;go_wp2_with fail
   refine(qL.1 w4 (O.1 w4 lX.1)).mono ?_;rintro e w5 ⟨rfl,mU⟩;obtain⟨ix,sg⟩:=pp;have kZ:=Kh (lX.1.trans (mU.mono (Nat.le_of_lt cG.1.sts.1)));have aD:=Kh (ZRow.keep cG.1 mU);clear mU k1 k2 k3 k4 l1 l2 l3 l4 pG pH cG lX;dsimp only;by_cases hs0:sg=0
   ·subst hs0
    have HZ:=Kh (show ZRow (λk=>if((ix,(0:Int)):Nat×Int).2=0 then 0 else if k % L.length=((ix,(0:Int)):Nat×Int).1/\k / L.length<=wt then((ix,(0:Int)):Nat×Int).2*mv i a b c d wt (k / L.length)else 0) w5 go CC CC from aD.1.congr (λj _=>by rw[if_pos rfl]));go_wp2;go_ret;exact⟨⟨go,rfl,Nat.le_of_lt aT.1,ZRow.keep aD.1 ((Below.refl _ _).alloc (kT _) _)⟩,(O.1 w5 kZ.1).alloc (O.1 w5 kZ.1).size _⟩
   ·have pW:sg=1∨sg=-1:=by
     rcases oP.1 with h |⟨_,h|h|h⟩
     ·injection h with _ h;exact absurd h hs0
     ·exact absurd h hs0
     ·exact .inl h
     ·exact .inr h
    have rF:ix<L.length:=by
     rcases oP.1 with h |⟨h,_⟩
     ·injection h with _ h;exact absurd h hs0
     ·exact h
    have tL:(sg==0)=false:=by simpa using hs0
    have mD:=Kh pW;clear pW;go_wp2_with fail
    obtain⟨w6,lL⟩:∃w6,w5.alloc (.cells #[.int .i64 (ix:Int),.int .i64 sg] 215)=w6:=⟨_,rfl⟩
    have hT:Below w5.heap.size w5 w6:=lL▸(Below.refl _ _).alloc (kT _) _;have X6:=lL▸Blk.new w5 215 #[.int .i64 (ix:Int),.int .i64 sg];rw[lL];refine(Gc sg w6 (by rcases mD.1 with h|h <;> omega) (by rcases mD.1 with h|h <;> omega)).mono ?_;rintro e w7 ⟨⟨s0,p0,n0,c0,rfl,qA⟩,lF⟩;have X7:=X6.below_ lF X6.lt;have oT:=Kh X7;have oI:=Kh (show go<w5.heap.size from aD.1.sts.1);have aX:=Kh (ZRow.keep aD.1 (hT.trans (lF.mono hT.size)));have oC:=Kh (kZ.1.trans ((hT.trans (lF.mono hT.size)).mono (Nat.le_of_lt aD.1.sts.1)));have oW:=Kh qA;clear lL hT X6 X7 qA lF kZ aD;go_wp2_with fail
    obtain⟨w8,lM⟩:∃w8,w7.alloc (.cells #[.bool s0,.slice p0 n0 c0] 84)=w8:=⟨_,rfl⟩
    have hU:Below w7.heap.size w7 w8:=lM▸(Below.refl _ _).alloc (kT _) _;have X8:=lM▸Blk.new w7 84 #[.bool s0,.slice p0 n0 c0];rw[lM];have mH:=Kh (bk oT hU);have cT:=Kh (ZRow.keep aX.1 hU);have oD:=Kh (oC.1.trans (hU.mono (Nat.le_of_lt aX.1.sts.1)))
    have mJ:=Kh (show ZE (sg*mv i a b c d 0 0) w8 w7.heap.size (0*2)from⟨s0,p0,n0,c0,X8.at_ 0 rfl,X8.at_ 1 rfl,by
     have h:=oW.1.keep hU;have e:sg*mv i a b c d 0 0=sg:=by rw[mv];simp
     rw[e];exact h⟩)
    have lZ:=Kh (show go<w7.heap.size from aX.1.sts.1);have mB:=Kh X8.lt;obtain⟨g7,pO⟩:∃x,w7.heap.size=x:=⟨_,rfl⟩
    rw[pO]at mJ lZ mB ⊢;have oL:=Kh (λW=>Gc a W (by have:=Z.1;omega) (by have:=Z.1;omega));have oM:=Kh (λW=>Gc b W (by have:=Z.1;omega) (by have:=Z.1;omega));have oN:=Kh (λW=>Gc c W (by have:=Z.1;omega) (by have:=Z.1;omega));have oO:=Kh (λW=>Gc d W (by have:=Z.1;omega) (by have:=Z.1;omega));have bB:=Kh (show nd a.natAbs<=2/\nd b.natAbs<=2/\nd c.natAbs<=2/\nd d.natAbs<=2 from⟨Dd Z.1.1.1 Z.1.1.2,Dd Z.1.2.1.1 Z.1.2.1.2,Dd Z.1.2.2.1.1 Z.1.2.2.1.2,Dd Z.1.2.2.2.1 Z.1.2.2.2.2⟩);clear lM hU X8 oT aX oC oW pO;go_loopw [18,19] (λvp vk wr=>∃(k gp cp:Nat),k<=wt/\vk=.int .i64 k/\vp=.slice (some ⟨gp,0,none⟩) (k+1) cp/\go<gp/\gp<wr.heap.size/\(∀U,U<k+1->ZE (sg*mv i a b c d k U) wr gp (U*2))/\Below w8.heap.size w8 wr) (λ_ vk _=>wt - (intOf vk).toNat)
    case atStart=>exact⟨0,g7,1,Nat.zero_le _,rfl,rfl,lZ.1,mB.1,λU gP=>by obtain rfl:U=0:=(by omega);exact mJ.1,Below.refl _ _⟩
    case round=>
     obtain⟨k,gp,cp,hk,rfl,rfl,pR,mW,nL,mV⟩:=hrel;obtain⟨H,rfl⟩:∃H:World,H=wr:=⟨_,rfl⟩
     have bY:=Kh mV;have qP:=Kh pR;have lS:=Kh (show go<H.heap.size by omega);have sW:=Kh mW;have mK:=Kh (show ∀W,Below H.heap.size H W->ZL (λU=>sg*mv i a b c d k U) W (.slice (some ⟨gp,0,none⟩) (k+1) cp) (k+1)from λW V=>.inr ⟨gp,0,cp,rfl,kV mW V.size,λU gP=>by rw[Nat.zero_add];exact(nL U gP).keep V⟩);have oX:=Kh nL;have eP:=Kh (show Below go w1 H from oD.1.trans (mV.mono (Nat.le_of_lt cT.1.sts.1)));have X9:=mI.1 H eP.1;have t1:=(lB.1 H (O.1 H eP.1)).c1
     have mG:=Kh (show ∀U,nd (sg*mv i a b c d k U).natAbs<=1000 from λU=>by
      have h1:=Sj i a b c d bB.1.1 bB.1.2.1 bB.1.2.2.1 bB.1.2.2.2 k U
      have h2:(sg*mv i a b c d k U).natAbs=(mv i a b c d k U).natAbs:=by
       rw[Int.natAbs_mul];rcases mD.1 with h|h <;> rw[h] <;> simp
      rw[h2];omega)
     clear pR mW nL mV mJ lZ mB;by_cases hkw:k<wt
     ·have sH:(k:Int)<(wt:Int):=by omega
      have b0:=X9.at_ 0 rfl;have b1:=X9.at_ 1 rfl;have b2:=X9.at_ 2 rfl;have b3:=X9.at_ 3 rfl;clear X9;by_cases mX:k<i
      ·have pU:(k:Int)<(i:Int):=by omega
       have hM:=Kh (show ∀W,Below H.heap.size H W->(W.cell? ⟨w.heap.size,0,none⟩=some (.int .i64 a)/\W.cell? ⟨w.heap.size,1,none⟩=some (.int .i64 b))from λW V=>⟨Ac V b0,Ac V b1⟩);have gF:=hM.1 _ (Below.refl _ H).drew;have hE:=Kh (show ∀wb,Below H.drew.heap.size H.drew wb->Below H.heap.size H wb from λwb V=>(Below.refl _ H).drew.trans V);have hG:=Kh (show ∀wa wb,Below H.heap.size H wa->Below wa.heap.size wa wb->Below H.heap.size H wb from λwa wb h1 h2=>h1.trans (h2.mono h1.size));have mC:=Kh (show ∀U,sg*mv i a b c d (k+1) U=lin a b (λU=>sg*mv i a b c d k U) U from λU=>by rw[L7,mv,if_pos mX]);clear b0 b1 b2 b3;go_upto_region 17 with(fail)
       go_region_held3 (λW=>W.cell? ⟨w.heap.size,0,none⟩=some (.int .i64 a)/\W.cell? ⟨w.heap.size,1,none⟩=some (.int .i64 b))
        (first|with_reducible exact gF|with_reducible exact hM.1 _ J |(exfalso;assumption))
        (first
         |(go_at_call 83;(with_reducible refine(oL.1 _).mono ?_);rintro e dY ⟨⟨sA,pA,nA,cA,rfl,nH⟩,I⟩;have J:Below H.heap.size H dY:=(by first|exact hG.1 _ _ J I|exact hE.1 _ I))
         |(go_at_call 83;(with_reducible refine(oM.1 _).mono ?_);rintro e dY ⟨⟨sB,pB,nB,cB,rfl,nI⟩,I⟩;have J:Below H.heap.size H dY:=(by first|exact hG.1 _ _ J I|exact hE.1 _ I))
         |(go_at_call 145;refine(Ov _ (k+1) (λU=>sg*mv i a b c d k U) sA pA nA cA a sB pB nB cB b _ (mK.1 _ J) (by first|exact nH|exact nH.keep I) (by first|exact nI|exact nI.keep I) (by omega) (by omega) (by rw[<-nH.2.1];have:=bB.1;omega) (by rw[<-nI.2.1];have:=bB.1;omega) mG.1 (λU h=>by rw[I8 _ _ _ _ _ _ _ (by omega),Int.mul_zero])).mono ?_;rintro e nO ⟨⟨gN,rfl,hV,iL⟩,hS⟩;have hW:=Kh (kU J.size hV);have J:Below H.heap.size H nO:=Below.trans J (hS.mono J.size);have hN:=Kh iL;have lY:=Kh J;clear iL hV))
       all_goals go_wp2
       all_goals go_roundw
       all_goals first
        | exact⟨k+1,gN,_,by omega,by go_num,rfl,kV lS.1 hW.1,hN.1.sts.1,λU gP=>by rw[mC.1];exact hN.1.val U gP,bY.1.trans (lY.1.mono bY.1.size)⟩
        |(simp[intOf];omega)
      ·have pU:¬((k:Int)<(i:Int)):=by omega
       have hM:=Kh (show ∀W,Below H.heap.size H W->(W.cell? ⟨w.heap.size,2,none⟩=some (.int .i64 c)/\W.cell? ⟨w.heap.size,3,none⟩=some (.int .i64 d))from λW V=>⟨Ac V b2,Ac V b3⟩);have gF:=hM.1 _ (Below.refl _ H).drew;have hE:=Kh (show ∀wb,Below H.drew.heap.size H.drew wb->Below H.heap.size H wb from λwb V=>(Below.refl _ H).drew.trans V);have hG:=Kh (show ∀wa wb,Below H.heap.size H wa->Below wa.heap.size wa wb->Below H.heap.size H wb from λwa wb h1 h2=>h1.trans (h2.mono h1.size));have mC:=Kh (show ∀U,sg*mv i a b c d (k+1) U=lin c d (λU=>sg*mv i a b c d k U) U from λU=>by rw[L7,mv,if_neg mX]);clear b0 b1 b2 b3;go_upto_region 18 with(fail)
       go_region_held3 (λW=>W.cell? ⟨w.heap.size,2,none⟩=some (.int .i64 c)/\W.cell? ⟨w.heap.size,3,none⟩=some (.int .i64 d))
        (first|with_reducible exact gF|with_reducible exact hM.1 _ J |(exfalso;assumption))
        (first
         |(go_at_call 83;(with_reducible refine(oN.1 _).mono ?_);rintro e dY ⟨⟨sC,pC,nC,cC,rfl,nJ⟩,I⟩;have J:Below H.heap.size H dY:=(by first|exact hG.1 _ _ J I|exact hE.1 _ I))
         |(go_at_call 83;(with_reducible refine(oO.1 _).mono ?_);rintro e dY ⟨⟨sD,pD,nD,cD,rfl,nK⟩,I⟩;have J:Below H.heap.size H dY:=(by first|exact hG.1 _ _ J I|exact hE.1 _ I))
         |(go_at_call 145;refine(Ov _ (k+1) (λU=>sg*mv i a b c d k U) sC pC nC cC c sD pD nD cD d _ (mK.1 _ J) (by first|exact nJ|exact nJ.keep I) (by first|exact nK|exact nK.keep I) (by omega) (by omega) (by rw[<-nJ.2.1];have:=bB.1;omega) (by rw[<-nK.2.1];have:=bB.1;omega) mG.1 (λU h=>by rw[I8 _ _ _ _ _ _ _ (by omega),Int.mul_zero])).mono ?_;rintro e nO ⟨⟨gN,rfl,hV,iL⟩,hS⟩;have hW:=Kh (kU J.size hV);have J:Below H.heap.size H nO:=Below.trans J (hS.mono J.size);have hN:=Kh iL;have lY:=Kh J;clear iL hV))
       all_goals go_wp2
       all_goals go_roundw
       all_goals first
        | exact⟨k+1,gN,_,by omega,by go_num,rfl,kV lS.1 hW.1,hN.1.sts.1,λU gP=>by rw[mC.1];exact hN.1.val U gP,bY.1.trans (lY.1.mono bY.1.size)⟩
        |(simp[intOf];omega)
     ·obtain rfl:wt=k:=by omega
      have hJ:=Kh (show ZRow (Xd L.length ix sg (mv i a b c d wt) 0) H go CC CC from ZRow.congr (ZRow.keep cT.1 bY.1) (λj _=>(Xe _ _ _ _ _).symm));have oU:=Kh (mH.1.below_ bY.1 mH.1.lt);obtain⟨gq,pS⟩:∃x,w5.heap.size=x:=⟨_,rfl⟩
      rw[pS]at oU oI ⊢;obtain⟨lO,lC,t2,_⟩:=(lB.1 H (O.1 H eP.1)).c2;have qS:=Kh t2;have qT:=Kh (show T<go from kV (lB.1 w (Below.refl _ _)).lt (kU hB (Nat.le_of_lt aT.1)));have oR:=Kh (O.1 H eP.1);clear pS X9 t2 mK mG cT mH oD bY oL oM oN oO;go_wp2_with fail
      go_loopw [120] (λii wr=>∃q:Nat,q<=wt+1/\ii=.int .i64 q/\ZRow (Xd L.length ix sg (mv i a b c d wt) q) wr go CC CC/\H.grownBy wr (some go)) (λii _=>wt+1 - (intOf ii).toNat)
      case atStart=>exact⟨0,Nat.zero_le _,rfl,hJ.1,Af go (Below.refl _ _)⟩
      case round=>
       obtain⟨q,hq,rfl,bE,pT⟩:=hrel;obtain⟨we,rfl⟩:∃we:World,we=wr:=⟨_,rfl⟩
       have cX:=Kh bE;have mA:=Kh pT;have mQ:T≠go:=Nat.ne_of_lt qT.1;have rJ:gp≠go:=Nat.ne_of_gt qP.1;have mZ:gq≠go:=Nat.ne_of_gt oI.1;clear bE pT;by_cases hlt:q<wt+1
       ·have tK:(q:Int)<((wt+1:Nat):Int):=by omega
        obtain⟨s,p,n5,c5,a0,a1,hz⟩:=ZE.but hJ.1.sts mA.1 rJ (oX.1 q hlt);have HZ:=Kh hz;clear hz;go_wp2_with fail
        obtain⟨wb,lN⟩:∃wb,we.alloc (.cells #[.bool s,.slice p n5 c5] 84)=wb:=⟨_,rfl⟩
        have lG:Below we.heap.size we wb:=lN▸(Below.refl _ _).alloc (kT _) _;have X:=lN▸Blk.new we 84 #[.bool s,.slice p n5 c5];rw[lN];obtain⟨gb,pP⟩:∃gb,we.heap.size=gb:=⟨_,rfl⟩
        have aN:=ZRow.keep cX.1 lG;have gA:gb≠go:=by have:=cX.1.sts.1;omega
        have lI:=mA.1.trans (Af go lG);rw[pP]at X ⊢;obtain⟨QL,lD⟩:∃x,q*L.length=x:=⟨_,rfl⟩
        obtain⟨IX,mL⟩:∃x,QL+ix=x:=⟨_,rfl⟩
        have pE:IX<CC:=by
         rw[<-mL,<-lD,<-qO.1];have h1:q*L.length+L.length<=(wt+1)*L.length:=by rw[<-Nat.succ_mul];exact Nat.mul_le_mul_right _ hlt
         omega
        have oJ:=Kh (show IX=q*L.length+ix by rw[<-mL,<-lD]);have e1:(q:Int)*(L.length:Int)=(QL:Nat):=by rw[<-lD];push_cast;rfl
        have e2:(QL:Int)+(ix:Int)=(IX:Nat):=by omega
        have v1:IntKind.i64.wrap (QL:Int)=(QL:Nat):=IntWalk.i64_in _ (by omega);have v2:IntKind.i64.wrap (IX:Int)=(IX:Nat):=IntWalk.i64_in _ (by omega);have i0:(0:Int)<=(IX:Int):=by omega
        have i1:(IX:Int)<(CC:Int):=by omega
        have t2:=lI.cell qS.1 (λe=>by injection e with e;exact mQ e);have x0:=lI.cell (oU.1.at_ 0 rfl) (λe=>by injection e with e;exact mZ e);have b0:=X.at_ 0 rfl;have b1:=X.at_ 1 rfl;obtain⟨u0,rK⟩:=kX (aN.has (IX*2) (by omega));obtain⟨u1,tM⟩:=kX (aN.has (IX*2+1) (by omega));have f0:=aN.free (IX*2) (by omega);have f1:=aN.free (IX*2+1) (by omega);have gF:wb.drew.cell? ⟨T,2,none⟩=some (.slice lO L.length lC)/\wb.drew.cell? ⟨gq,0,none⟩=some (.int .i64 (ix:Int))/\wb.drew.cell? ⟨gb,0,none⟩=some (.bool s)/\wb.drew.cell? ⟨gb,1,none⟩=some (.slice p n5 c5):=⟨t2,x0,b0,b1⟩
        have qR:=Kh (show ∀(X:World) (v1 v2:Value),(X.cell? ⟨T,2,none⟩=some (.slice lO L.length lC)/\X.cell? ⟨gq,0,none⟩=some (.int .i64 (ix:Int))/\X.cell? ⟨gb,0,none⟩=some (.bool s)/\X.cell? ⟨gb,1,none⟩=some (.slice p n5 c5))->(((X.setCell ⟨go,IX*2,none⟩ v1).setCell ⟨go,IX*2+1,none⟩ v2).cell? ⟨T,2,none⟩=some (.slice lO L.length lC)/\((X.setCell ⟨go,IX*2,none⟩ v1).setCell ⟨go,IX*2+1,none⟩ v2).cell? ⟨gq,0,none⟩=some (.int .i64 (ix:Int))/\((X.setCell ⟨go,IX*2,none⟩ v1).setCell ⟨go,IX*2+1,none⟩ v2).cell? ⟨gb,0,none⟩=some (.bool s)/\((X.setCell ⟨go,IX*2,none⟩ v1).setCell ⟨go,IX*2+1,none⟩ v2).cell? ⟨gb,1,none⟩=some (.slice p n5 c5))from λX v1 v2 h=>⟨by rw[World.cell?_setCell_far _ _ _ _ (by exact mQ.symm),World.cell?_setCell_far _ _ _ _ (by exact mQ.symm)];exact h.1,by rw[World.cell?_setCell_far _ _ _ _ (by exact mZ.symm),World.cell?_setCell_far _ _ _ _ (by exact mZ.symm)];exact h.2.1,by rw[World.cell?_setCell_far _ _ _ _ (by exact gA.symm),World.cell?_setCell_far _ _ _ _ (by exact gA.symm)];exact h.2.2.1,by rw[World.cell?_setCell_far _ _ _ _ (by exact gA.symm),World.cell?_setCell_far _ _ _ _ (by exact gA.symm)];exact h.2.2.2⟩);have hI:=Kh aN;have oH:=Kh lI;have qV:=Kh (HZ.1.keep lG);clear lD mL aN lI X lN lG b0 b1 t2 x0 pP a0 a1 HZ;go_upto_region 22 with(fail)
        go_region_held3 (λw'=>w'.cell? ⟨T,2,none⟩=some (.slice lO L.length lC)/\w'.cell? ⟨gq,0,none⟩=some (.int .i64 (ix:Int))/\w'.cell? ⟨gb,0,none⟩=some (.bool s)/\w'.cell? ⟨gb,1,none⟩=some (.slice p n5 c5))
         (first|with_reducible exact gF|exact qR.1 _ _ _ gF)
         (fail)
        all_goals go_wp2
        all_goals go_roundw
        all_goals first
         | exact⟨q+1,by omega,by go_num,ZRow.set (k':=CC) (ZRow.keep hI.1 (Below.refl _ wb).drew) IX pE (Xd L.length ix sg (mv i a b c d wt) (q+1)) (λc' h1 h2=>⟨h1,aR (by rw[<-oJ.1];exact h2)⟩) (by rw[oJ.1,eS sg _ rF];exact qV.1.keep (Below.refl _ wb).drew),(oH.1.trans (Af go (Below.refl _ wb).drew)).trans (Jq _ go _ _ _ _)⟩
         |(simp[intOf];omega)
       ·obtain rfl:wt+1=q:=by omega
        have oG:=Kh (show ZRow (λk=>if k % L.length=ix/\k / L.length<=wt then sg*mv i a b c d wt (k / L.length)else 0) we go CC CC from cX.1.congr (λc' _=>by
         unfold Xd;by_cases h1:c' % L.length=ix/\c' / L.length<=wt
         ·rw[if_pos h1,if_pos ⟨h1.1,by omega⟩]
         ·rw[if_neg h1,if_neg (λh=>h1 ⟨h.1,by omega⟩)]))
        have qN:=Kh (An oR.1 mA.1 oR.1.size (Nat.le_of_lt aT.1));go_wp2;go_ret;exact⟨⟨go,rfl,Nat.le_of_lt aT.1,oG.1⟩,qN.1⟩
end
section
open Go.RowKit Eli Tryz
def Bv (C:Nat) (f:Nat->Int) (i q:Nat):Int:=if q<C then f (i*C+q)else 0
theorem Cv {C:Nat} {f:Nat->Int} (H:∀j,(f j).natAbs<=16777216) (i q:Nat):(Bv C f i q).natAbs<=16777216:=by
 unfold Bv;split
 ·exact H _
 ·simp
theorem Xc {C t:Nat} {w:World} {B:Nat} {v:Value} {r:List (Nat×Rat)} (h:OwnT r w B v) (H:Ord C (t+1) r) (O:t<C):iU C w v<C+1 - t:=by
 cases r with
 | nil=>rw[aQ h];omega
 | cons y r=>rw[Pd h];have I:=H.1;have J:=H.2.1;omega
theorem eM {x:Rat} (h:x≠0):hq (1 / x)<=hq x:=by
 have J:x.num≠0:=λe=>h (Rat.num_eq_zero.1 e)
 rw[<-Pn 1 x];have H:(1:Rat).num=1:=rfl;have I:(1:Rat).den=1:=rfl;rw[H,I,Int.one_mul,Int.natCast_one,Int.one_mul];exact Cz J (by rw[Int.natAbs_natCast];exact Ff x) (En x)
theorem Dl (C:Nat) (f:Nat->Int) (i q:Nat) (h:C<=q):Bv C f i q=0:=by unfold Bv;rw[if_neg (by omega)]
theorem Oo (R C gA oA cA:Nat) (f:Nat->Int) (w:World) (hg:gA<w.heap.size) (hA:∀j,j<R*C->ZE (f j) w gA (oA+j*2)) (hR:R<=1000) (h0:0<C) (hC:C<=72) (lK:R*C<=cA) (hM:cA<=9223372036854775807) (hf:∀j,(f j).natAbs<=16777216):
  Calls prog 48 #[.agg #[.int .i64 R,.int .i64 C,.slice (some ⟨gA,oA,none⟩) (R*C:Nat) cA]] w λe w'=>(∃G,e=.returned (.slice (some ⟨G,0,none⟩) C C)/\w.heap.size<=G/\LeadTab (elim C (Bv C f) R) w' G C w'.heap.size)/\Below w.heap.size w w':=by
 have HA:=Kh hA;have mP:=Kh (And.intro lK hM);have lU:=Kh (λk=>Good.elim (n:=C) (B:=16777216) (by omega) (Cv hf) (Dl C f) k);have mZ:=Kh (Cv (C:=C) hf);have hD:=Kh (Ny (n:=C) (B:=16777216) hC (kT _));have HF:=Kh hf;have qF:=iD C (by omega);obtain⟨RC,lZ⟩:∃n,R*C=n:=⟨_,rfl⟩
 rw[lZ];clear hA lK hM hf;go_enter func48,ntmps48
 go_wp2_with fail
 obtain⟨wm,lB⟩:∃wm,w.alloc (.cells #[.int .i64 R,.int .i64 C,.slice (some ⟨gA,oA,none⟩) RC cA] 99)=wm:=⟨_,rfl⟩
 obtain⟨X0,hI⟩:=Gs w #[.int .i64 R,.int .i64 C,.slice (some ⟨gA,oA,none⟩) RC cA] 99;rw[lB]at X0 hI;have hT:wm.heap.size=w.heap.size+1:=by rw[<-lB];simp
 have HT:=Kh (LeadTab.made wm C);obtain⟨wn,hU⟩:∃wn,wm.alloc (.cells (madeCells #[.slice none 0 0] C) 107)=wn:=⟨_,rfl⟩
 have mB:Below wm.heap.size wm wn:=hU▸(Below.refl _ _).alloc (kT _) _;have lA:wn.heap.size=wm.heap.size+1:=by rw[<-hU];simp
 rw[hU]at HT;rw[lB,hU];obtain⟨G,hG⟩:∃G,w.heap.size+1=G:=⟨_,rfl⟩
 rw[hG]at hT ⊢;obtain⟨gm,nY⟩:∃gm,w.heap.size=gm:=⟨_,rfl⟩
 have lT:=Kh (show gm<G by omega);have oT:=Kh (show Below w.heap.size w wm from hI);have mS:=Kh (show w.heap.size<=G by omega);rw[hT]at HT mB lA;rw[nY]at X0 ⊢;have HX:=Kh X0;have mN:=Kh mB;have rM:=Kh lA;have oQ:=Kh (kV hg hI.size);have oS:=Kh (λj (hj:j<R*C)=>(HA.1 j hj).keep hI);have hE:=Kh hT;rw[hT]at oQ;have nA:=Kh (HT.1.up (Nat.le_of_eq lA.symm));clear X0 lB hU mB lA hI hT qF HA HT hG nY hg;go_loopw [4] (λi wr=>∃k:Nat,k<=R/\i=.int .i64 k/\LeadTab (elim C (Bv C f) k) wr G C wr.heap.size/\Below G wm wr) (λi _=>R - (intOf i).toNat)
 case atStart=>exact⟨0,Nat.zero_le _,rfl,nA.1,mN.1⟩
 case round=>
  obtain⟨k,hk,rfl,lL,hJ⟩:=hrel;obtain⟨wi,rfl⟩:∃wi:World,wi=wr:=⟨_,rfl⟩
  have aK:=Kh lL;have aN:=Kh hJ;have x0:=(HX.1.below_ hJ lT.1).at_ 0 rfl;have x1:=(HX.1.below_ hJ lT.1).at_ 1 rfl;have x2:=(HX.1.below_ hJ lT.1).at_ 2 rfl;clear lL hJ nA mN;by_cases hlt:k<R
  ·obtain⟨KC,kY⟩:∃n,k*C=n:=⟨_,rfl⟩
   have oZ:=Kh (show KC+C<=RC by
    have h1:=Nat.mul_le_mul_right C (show k+1<=R by omega);rw[Nat.succ_mul]at h1;omega)
   have e1:(k:Int)*(C:Int)=(KC:Nat):=by rw[<-kY];push_cast;rfl
   have e2:((k:Int)+1)*(C:Int)=((KC+C:Nat)):=by rw[Int.add_mul,e1];push_cast;omega
   have nX:=mP.1;rw[lZ]at nX;have qE:=oZ.1;have rL:=Kh kY
   have oR:=Kh (λj (hj:j<C)=>show ZE (Bv C f k j) wm gA (oA+KC*2+j*2)by
    have h:=oS.1 (KC+j) (by rw[lZ];omega);rw[show oA+(KC+j)*2=oA+KC*2+j*2 by omega]at h;unfold Bv;rw[if_pos hj,kY];exact h)
   clear kY;go_wp2_with fail
   rw[show KC+C - KC=C by omega];have rU:C<=cA - KC:=by omega
   clear e1 e2 nX qE x0 x1 x2;have oW:=Kh (show ∀O,Below wi.heap.size wi O->Below wm.heap.size wm O from λO I=>hE.1▸(aN.1.trans (I.mono (hE.1▸aN.1.size))));go_loopw [5,33] (λv ii w2=>∃j:Nat,j<=C/\ii=.int .i64 j/\OwnT (P3 (Bv C f k) j) w2 wi.heap.size v/\Below wi.heap.size wi w2) (λ_ ii _=>C - (intOf ii).toNat)
   case atStart=>exact⟨0,Nat.zero_le _,rfl,OwnT.nil _ _,Below.refl _ _⟩
   case round=>
    obtain⟨j,hj,rfl,V,eP⟩:=hrel;obtain⟨w2,rfl⟩:∃w2:World,w2=wr:=⟨_,rfl⟩
    have aD:=Kh V;have bA:=Kh eP;clear V eP;by_cases hjc:j<C
    ·have qW:(j:Int)<(C:Int):=by omega
     obtain⟨s,p,n,c,a0,a1,hz⟩:=(oR.1 j hjc).keep (oW.1 _ bA.1);have HZ:=Kh hz;have HN:=Kh (show n<=1 by rw[<-hz.2.1];exact Be.2 (by have:=mZ.1 k j;omega));clear hz;go_wp2_with fail
     obtain⟨H,mF,X3,aT⟩:=bx1 w2 #[.bool s,.slice p n c] 84;rw[mF];have nH:=Kh X3;have J:=Kh aT;have nV:w2.heap.size<H.heap.size:=by rw[<-mF];simp
     have mO:=Kh nV;clear X3 aT mF a0 a1 nV;refine(Ht s p n c _ H (HZ.1.keep J.1).raw (by have:=HN.1;omega)).mono ?_;rintro e w4 ⟨rfl,aX⟩;have bE:=bt J aX;have oU:=Kh (bA.1.trans (bE.1.mono bA.1.size));have y0:=(nH.1.below_ aX mO.1).at_ 0 rfl;have y1:=(nH.1.below_ aX mO.1).at_ 1 rfl;clear aX;by_cases hz0:Bv C f k j=0
     ·have kZ:Int.sign (Bv C f k j)=0:=by rw[hz0];rfl
      have lX:=Kh hz0;rw[kZ];clear hz0 kZ;go_wp2;go_roundw
      case rel=>exact⟨j+1,by omega,by go_num,by rw[P3,if_pos lX.1];exact aD.1.keep bE.1,oU.1⟩
      case measure=>simp[intOf];omega
     ·have kZ:(Int.sign (Bv C f k j) != 0)=true:=by
       have:Int.sign (Bv C f k j)≠0:=λe=>hz0 (Int.sign_eq_zero_iff_zero.1 e)
       simpa using this
      have lX:=Kh hz0;clear hz0;go_wp2_with fail
      refine(V6 s p n c _ w4 (HZ.1.keep bE.1) (by have:=HN.1;omega)).mono ?_;rintro e Z ⟨⟨s4,p4,n4,c4,t4,q4,m4,d4,rfl,oD⟩,nT⟩;have pH:=Kh oD;have lC:=bt bE nT;have lQ:=Kh (bA.1.trans (lC.1.mono bA.1.size));obtain⟨xs,nP,nR⟩:=aD.1.keep lC.1;have lV:=Kh nP;have pL:=Kh nR;have mV:=Kh (Dp (So (Bv C f k) j));clear oD nT nP nR y0 y1 kZ;go_wp2_with (at_builtin;refine Bj NotU32 rfl (.tmp 41) (.tmp 46) _ 110 rfl underlying107 Ei rfl (by decide) wi.heap.size (P3 (Bv C f k) j).length u5 xs [.int .i64 (j:Int),.bool s4,.slice p4 n4 c4,.bool t4,.slice q4 m4 d4] rfl lV.1 rfl rfl (Ul _ _ _ _ _ _ _ _ _) (by have:=mV.1;omega) (by have:=mV.1;omega) lQ.1.size (fO _ _ _ _ _ _ _ _ _) Uk ?_;intro v9 w9 hQ hN nS;have pE:=Kh (OwnT.push lV.1 pL.1 j (Bv C f k j:Rat) pH.1 hQ hN);have oV:=Kh (lQ.1.trans (Aw (Below.refl _ _) lV.1.1 hN (kT _) lQ.1.size));clear hQ hN nS)
      go_roundw
      case rel=>exact⟨j+1,by omega,by go_num,by rw[P3,if_neg lX.1];exact pE.1,oV.1⟩
      case measure=>simp[intOf];omega
    ·obtain rfl:C=j:=by omega
     go_wp2;obtain⟨L,hL⟩:∃L,elim C (Bv C f) k=L:=⟨_,rfl⟩
     have HL:=Kh hL;have hB:=Kh (show Eli.Good C 16777216 L from hL▸lU.1 k);rw[hL]at aK;clear hL;go_loopw [5] (λv H=>∃(m t:Nat) (r:List (Nat×Rat)),m<=t/\t<=C/\Et L m (P3 (Bv C f k) C)=r/\RowOk C L (Bv C f k) t r/\OwnT r H wi.heap.size v/\Below wi.heap.size wi H) (λv H=>iU C H v)
     case atStart=>exact⟨0,0,_,kT _,Nat.zero_le _,rfl,RowOk.first C L _ (Dl C f k),aD.1,bA.1⟩
     case round=>
      obtain⟨m,t0,r,hm,ht,hr,aL,V,aT⟩:=hrel;obtain⟨H,rfl⟩:∃H:World,H=wr:=⟨_,rfl⟩
      have J:=Kh aT;have aU:=Kh hr;have pF:=Kh aL;have HM:=Kh (And.intro hm ht);clear aT hr aD bA hm ht;cases r with
      | nil=>
       rcases V.row with⟨_,rfl⟩ |⟨g,cap,rfl,_,_,_,_,_⟩
       ·have HE:=Kh (show elim C (Bv C f) (k+1)=L by
         rw[elim,HL.1,Gp (by rw[aU.1];rfl) C (kU HM.1.1 HM.1.2),aU.1];rfl)
        clear V aL;go_wp2;go_roundw
        case rel=>exact⟨k+1,by omega,by go_num,by rw[HE.1];exact(aK.1.keep (kT _) J.1).up J.1.size,aN.1.trans (J.1.mono (hE.1▸aN.1.size))⟩
        case measure=>simp[intOf];omega
       ·have HE:=Kh (show elim C (Bv C f) (k+1)=L by
         rw[elim,HL.1,Gp (by rw[aU.1];rfl) C (kU HM.1.1 HM.1.2),aU.1];rfl)
        clear V aL;go_wp2;go_roundw
        case rel=>exact⟨k+1,by omega,by go_num,by rw[HE.1];exact(aK.1.keep (kT _) J.1).up J.1.size,aN.1.trans (J.1.mono (hE.1▸aN.1.size))⟩
        case measure=>simp[intOf];omega
      | cons x r=>
       have aD:=Kh V;rcases V.row with⟨he,_⟩ |⟨g,cap,rfl,nW,qC,qD,gL,mE⟩
       ·cases he
       have nF:=Kh mE;obtain⟨a0,s,p,n,c,t,q,m1,d,a1,a2,a3,a4,hq⟩:=mE.val 0 x rfl;rw[Nat.zero_mul]at a0 a1 a2 a3 a4;rw[Nat.zero_add]at a1 a2 a3 a4;have mY:=Kh (show Qs H s p n c t q m1 d x.2 from hq);have hV:x.1<C:=aL.1.2.1;have nG:=Kh aL.1.2.2.1;have iL:=Kh (aL.size hB.1 (mZ.1 k)).1;have nD:=Kh ((aK.1.keep (kT _) J.1).up J.1.size);obtain⟨lv,l0,gN,hO⟩:=nD.1.val x.1 hV;have nE:=Kh gN;have mU:=Kh (show(x :: r).length<=72 from kU (Dp aL.1) (by omega));rw[List.length_cons]at nW ⊢;have sA:(x.1:Int)<(C:Int):=by omega
       have qV:(0:Int)<((r.length:Int)+1):=by omega
       have rX:(((r.length:Nat):Int)+1==0)=false:=by simp;omega
       have pY:G<H.heap.size:=nD.1.stk.1;have mQ:=Kh (And.intro nW qC);clear V mE hq gN;by_cases hL0:L x.1=[]
       ·obtain rfl:=hO hL0
        have pB:=Kh hL0;clear hL0 hO aL;go_wp2_with fail
        have lI:=Kh (show Et L C (P3 (Bv C f k) C)=x :: r by rw[Gp (by rw[aU.1];exact Ih pB.1) C (kU HM.1.1 HM.1.2),aU.1]);have HE:=Kh (show elim C (Bv C f) (k+1)=λj=>if j=x.1 then scl (x :: r)else L j by rw[elim,HL.1,lI.1];rfl);have oY:=Kh (eM nG.1);have mX:=Kh (show hq x.2<=80 from kU (iL.1 x (List.mem_cons_self ..)) hD.1);have aJ:=Kh (show ∀O,Below H.heap.size H O->(O.cell? ⟨g,1,none⟩=some (.bool s)/\O.cell? ⟨g,2,none⟩=some (.slice p n c)/\O.cell? ⟨g,3,none⟩=some (.bool t)/\O.cell? ⟨g,4,none⟩=some (.slice q m1 d))from λO I=>⟨Ac I a1,Ac I a2,Ac I a3,Ac I a4⟩);clear HM aU lI a0 a1 a2 a3 a4 l0;go_cut [8,9]from 78 to 86 (λv8 v9 wd=>∃Rv s4 p4 n4 c4 t4 q4 m4 d4,v8=.pointer (some ⟨Rv,0,none⟩)/\wd.cell? ⟨Rv,0,none⟩=some (.bool s4)/\wd.cell? ⟨Rv,1,none⟩=some (.slice p4 n4 c4)/\wd.cell? ⟨Rv,2,none⟩=some (.bool t4)/\wd.cell? ⟨Rv,3,none⟩=some (.slice q4 m4 d4)/\Qs wd s4 p4 n4 c4 t4 q4 m4 d4 (1 / x.2)/\Below H.heap.size H wd/\H.heap.size<=Rv)
        case first=>
         go_region_held3 (λO=>O.cell? ⟨g,1,none⟩=some (.bool s)/\O.cell? ⟨g,2,none⟩=some (.slice p n c)/\O.cell? ⟨g,3,none⟩=some (.bool t)/\O.cell? ⟨g,4,none⟩=some (.slice q m1 d))
          (first|exact aJ.1 _ (by first|exact(Below.refl _ H).drew|exact Below.refl _ H|exact((Below.refl _ H).drew).alloc (kT _) _|exact(Below.refl _ H).alloc (kT _) _|exact((Below.refl _ H).alloc (kT _) _).drew)|with_reducible exact aJ.1 _ Y|exact aJ.1 _ (Y.alloc bB _)|with_reducible exact aJ.1 _ (As Y pZ.1 _ _ _ _)|with_reducible exact aJ.1 _ (As Y (kT _) _ _ _ _)|with_reducible exact aJ.1 _ (As (Y.alloc bB _) bB _ _ _ _) |(exfalso;assumption))
          (first
           |(go_at_call 49;refine(Ey 1 _ (by omega) (by omega)).mono ?_;rintro e w4 ⟨⟨s3,p3,n3,c3,t3,q3,m3,d3,rfl,oH⟩,eP⟩;have U:Below H.heap.size H w4:=Below.trans (show Below H.heap.size H _ from(by first|exact(Below.refl _ H).drew|exact Below.refl _ H|exact((Below.refl _ H).drew).alloc (kT _) _|exact(Below.refl _ H).alloc (kT _) _|exact((Below.refl _ H).alloc (kT _) _).drew)) (Below.mono eP (Below.size (show Below H.heap.size H _ from(by first|exact(Below.refl _ H).drew|exact Below.refl _ H|exact((Below.refl _ H).drew).alloc (kT _) _|exact(Below.refl _ H).alloc (kT _) _|exact((Below.refl _ H).alloc (kT _) _).drew))));have Y:=U;have bB:=U.size;(first|have fa:=Kb (W:=H.drew) H.heap.size rfl eP|have fa:=Kb (W:=H) H.heap.size rfl eP|skip))
           |(go_at_call 96;refine(Z5 s3 p3 n3 c3 t3 q3 m3 d3 1 s p n c t q m1 d x.2 _ (by first|exact oH|exact oH.keep ((Below.refl _ _).alloc (kT _) _)) (mY.1.keep (show Below H.heap.size H _ from(by first|exact U|exact U.alloc U.size _))) (by rw[Wu];omega) (by have:=mX.1;omega) nG.1).mono ?_;rintro e Z ⟨⟨s4,p4,n4,c4,t4,q4,m4,d4,rfl,oI⟩,aT⟩;have gF:Below H.heap.size H Z:=Below.trans (show Below H.heap.size H _ from(by first|exact U|exact U.alloc U.size _)) (Below.mono aT (Below.size (show Below H.heap.size H _ from(by first|exact U|exact U.alloc U.size _))));have Y:=gF;have bB:=gF.size;(first|have fa:=Io (by first|exact aT) fa|have fa:=Kb w4.heap.size rfl aT|skip);have pZ:=Kh (show H.heap.size<=w4.heap.size from U.size)))
         all_goals go_wp2
         all_goals go_meet
         all_goals first
          | exact⟨Z.heap.size,s4,p4,n4,c4,t4,q4,m4,d4,rfl,(Blk.new Z 86 #[.bool s4,.slice p4 n4 c4,.bool t4,.slice q4 m4 d4]).at_ 0 rfl,(Blk.new Z 86 #[.bool s4,.slice p4 n4 c4,.bool t4,.slice q4 m4 d4]).at_ 1 rfl,(Blk.new Z 86 #[.bool s4,.slice p4 n4 c4,.bool t4,.slice q4 m4 d4]).at_ 2 rfl,(Blk.new Z 86 #[.bool s4,.slice p4 n4 c4,.bool t4,.slice q4 m4 d4]).at_ 3 rfl,oI.keep ((Below.refl _ _).alloc (kT _) _),gF.alloc gF.size _,gF.size⟩
          |(obtain⟨E0,E1,E2,E3,qG⟩:=B9 fa.2.2.2.2.2.2.2.2 oI rfl;exact⟨_,s4,p4,n4,c4,t4,q4,m4,d4,rfl,E0,E1,E2,E3,qG,As gF (by first|exact kT _|exact U.size) _ _ _ _,by first|exact kT _|exact U.size⟩)
        case rest=>
         obtain⟨Rv,s4,p4,n4,c4,t4,q4,m4,d4,rfl,e0,e1,e2,e3,hz,mA,qA⟩:=hcut;obtain⟨wd,rfl⟩:∃wd:World,wd=wc:=⟨_,rfl⟩
         have pM:=Kh hz;have lR:=Kh mA;have dE:=Kh (show Rv≠g by omega);have hY:=Kh (And.intro e0 (And.intro e1 (And.intro e2 e3)));have lJ:=Kh (show TRow (Ef (1 / x.2) 0 (x :: r)) wd g by rw[Rg];exact nF.1.keep mA);have pD:=Kh (λy (hy:y∈x :: r)=>show hq y.2<=80 from kU (iL.1 y hy) hD.1);clear hz mA qA e0 e1 e2 e3 aJ nF;go_wp2;go_loopw [89] (λii Z=>∃j:Nat,j<=(x :: r).length/\ii=.int .i64 j/\TRow (Ef (1 / x.2) j (x :: r)) Z g/\wd.grownBy Z (some g)/\I32 wd Z) (λii _=>r.length+1 - (intOf ii).toNat)
         case atStart=>exact⟨0,Nat.zero_le _,rfl,lJ.1,Af g (Below.refl _ _),I32.refl _⟩
         case round=>
          obtain⟨j,hj,rfl,lM,nZ,nO⟩:=hrel;obtain⟨Z,rfl⟩:∃Z:World,Z=wr:=⟨_,rfl⟩
          have bY:=Kh lM;have dC:=Kh nZ;have lP:=Kh nO;clear lM nZ nO lJ;by_cases hjr:j<(x :: r).length
          ·obtain⟨y,hy⟩:∃y,(x :: r)[j]?=some y:=⟨_,List.getElem?_eq_getElem hjr⟩
           have qH:y∈x :: r:=List.mem_of_getElem? hy;obtain⟨_,s',p',n',c',t',q',m',d',b1,b2,b3,b4,oE⟩:=bY.1.elem hy;have pI:=Kh (show Qs Z s' p' n' c' t' q' m' d' y.2 from oE);have z0:=dC.1.cell hY.1.1 (λe=>by injection e with e;exact dE.1 e);have z1:=dC.1.cell hY.1.2.1 (λe=>by injection e with e;exact dE.1 e);have z2:=dC.1.cell hY.1.2.2.1 (λe=>by injection e with e;exact dE.1 e);have z3:=dC.1.cell hY.1.2.2.2 (λe=>by injection e with e;exact dE.1 e);have pC:=Kh (λO (I:Below Z.heap.size Z O)=>Cy s4 p4 n4 c4 t4 q4 m4 d4 (1 / x.2) s' p' n' c' t' q' m' d' y.2 O ((pM.1.i32 lP.1).keep I) (pI.1.keep I) (by have:=oY.1;have:=mX.1;omega) (by have:=pD.1 y qH;omega));have hS:=bY.1;have rZ:(Ef (1 / x.2) j (x :: r)).length=r.length+1:=by rw[Hm];rfl
           have oC:j<r.length+1:=hjr;have rW:(j:Int)<(r.length:Int)+1:=by omega
           have rY:g≠Rv:=λe=>dE.1 e.symm
           have qY:=dE.1;clear oE;go_upto_region 19 with(fail)
           refine K6 (λW=>W.cell? ⟨Rv,0,none⟩=some (.bool s4)/\W.cell? ⟨Rv,1,none⟩=some (.slice p4 n4 c4)/\W.cell? ⟨Rv,2,none⟩=some (.bool t4)/\W.cell? ⟨Rv,3,none⟩=some (.slice q4 m4 d4)/\W.cell? ⟨g,j*5+1,none⟩=some (.bool s')/\W.frozen? ⟨g,j*5+1,none⟩=false/\W.cell? ⟨g,j*5+2,none⟩=some (.slice p' n' c')/\W.frozen? ⟨g,j*5+2,none⟩=false/\W.cell? ⟨g,j*5+3,none⟩=some (.bool t')/\W.frozen? ⟨g,j*5+3,none⟩=false/\W.cell? ⟨g,j*5+4,none⟩=some (.slice q' m' d')/\W.frozen? ⟨g,j*5+4,none⟩=false) (λW I=>⟨Au I z0,Au I z1,Au I z2,Au I z3,Au I b1,Ab I (by rw[b1];rfl) (hS.free _ (by omega)),Au I b2,Ab I (by rw[b2];rfl) (hS.free _ (by omega)),Au I b3,Ab I (by rw[b3];rfl) (hS.free _ (by omega)),Au I b4,Ab I (by rw[b4];rfl) (hS.free _ (by omega))⟩) (λpJ hHeld0=>?_);clear z0 z1 z2 z3 b1 b2 b3 b4 hS;refine Al 0 ?_;refine Al 1 ?_;refine Al 2 ?_;refine Al 3 ?_;refine Al 4 ?_;refine Al 5 ?_;refine Al 6 ?_;refine Al 7 ?_;refine F9 8 rfl (λK hK=>?_);focus(go_simp;refine(pC.1 _ (Below.refl _ Z).drew).mono ?_;rintro e w6 ⟨⟨s6,p6,n6,c6,t6,q6,m6,d6,rfl,oJ⟩,nU⟩;have hX:=Kh ((Below.refl _ Z).drew.trans nU:Below Z.heap.size Z w6);have mD:=bY.1.keep hX.1;have mW:=Kh (mD.scl hy oJ);have oX:=Kh (show ∀v0 v1 v2 v3,wd.grownBy ((((w6.setCell ⟨g,j*5+1,none⟩ v0).setCell ⟨g,j*5+2,none⟩ v1).setCell ⟨g,j*5+3,none⟩ v2).setCell ⟨g,j*5+4,none⟩ v3) (some g)from λ_ _ _ _=>Ut dC.1 hX.1);have H6:=Kh ((lP.1.trans (I32.below hX.1)).trans (I32.putT (k:=j) mD.stk s6 t6 p6 q6 n6 c6 m6 d6).2);clear oJ nU mD;(first|with_reducible refine hK.out _ _ ?_ (λhHeld1=>?_) |(go_wp2_with fail;with_reducible refine hK.out _ _ ?_ (λhHeld1=>?_))))
           focus((try dsimp only);exact pJ.1 _ hX.1)
           focus(clear hK K;(try simp only[Act.put,Br,Bt,Bs]))
           refine Al 9 ?_;refine Al 10 ?_;refine K5 11 rfl (λK hK=>?_);go_simp
           refine hK.out _ _ ?_;clear hK K
           (try simp only[Act.put,Br,Bt,Bs])
           all_goals go_wp2
           all_goals go_roundw
           all_goals first
            | exact⟨j+1,oC,by go_num,mW.1,oX.1 _ _ _ _,H6.1⟩
            |(simp[intOf];omega)
          ·obtain rfl:(x :: r).length=j:=by omega
           have lE:=Kh (show TRow (scl (x :: r)) Z g by
            have h:=bY.1;rw[Us]at h;exact h)
           have f0:=(lE.1.val 0 (x.1,1 / x.2*x.2) rfl).1;rw[Nat.zero_mul]at f0;have lS:=Kh (show Below wi.heap.size wi Z from An (J.1.trans (lR.1.mono J.1.size)) dC.1 (kU J.1.size lR.1.size) qD);have mM:=Kh (show I32 wi Z from((I32.below (J.1.trans (lR.1.mono J.1.size)))).trans lP.1);have lW:=Kh ((aK.1.next mM.1 lS.1 aK.1.stk.1 (kT _)).up lS.1.size);obtain⟨v5,l5,_,_⟩:=lW.1.val x.1 hV;have sB:=lW.1.free x.1 hV;have oF:(scl (x :: r)).length=r.length+1:=by rw[scl,List.length_map];rfl
           have mC:=lW.1.put (l:=scl (x :: r)) hV (by rw[scl];intro e;cases e) (lE.1.tl (cap:=cap) (by rw[scl,List.length_map];exact mQ.1.1) mQ.1.2);rw[oF]at mC;have pG:=Kh mC;clear mC oF;go_wp2;go_roundw
           case rel=>exact⟨k+1,by omega,by go_num,by rw[HE.1];exact pG.1.up (Nat.le_of_eq (by simp)),(aN.1.trans (lS.1.mono (hE.1▸aN.1.size))).setCell (p:=⟨G,x.1,none⟩) (kT _) _⟩
           case measure=>simp[intOf];omega
       ·have nQ:=hB.1.head x.1
        obtain⟨b,I⟩:=nQ.resolve_left hL0;have hZ:=Kh (aL.step hB.1 hL0);have gN:=nE.1;rw[I]at gN;obtain⟨gl,ol,cl,rfl,rT,_,_,_,_⟩:=gN.cons;clear gN hO aL hL0 nQ;go_wp2_with fail
        have nB:=Kh (λW (I:Below H.heap.size H W)=>(aD.1.tl.keep (kT _) I).up I.size);have nC:=Kh (λW (I:Below H.heap.size H W)=>(nE.1.keep (kT _) I).up I.size);have lH:=Kh (show Sml (top C 16777216) x.2 (x :: r) (L x.1)from⟨iL.1 x (List.mem_cons_self ..),iL.1,hB.1.size x.1⟩);have mT:=Kh (show(L x.1).length<=72 from kU (Dp (hB.1.ord x.1)) (by omega));have gU:=Kh (λW (I:Below H.heap.size H W)=>Z1 _ _ (x :: r) (L x.1) s p n c t q m1 d x.2 (top C 16777216) W (nB.1 W I) (nC.1 W I) (mY.1.keep I) lH.1 (by have:=hD.1;omega) (by have:=mT.1;have:=mU.1;omega));rw[I]at gU;have qU:=gL;clear nB nC lH mT;have aJ:=Kh (show ∀O,Below H.heap.size H O->(O.cell? ⟨g,0,none⟩=some (.int .i64 (x.1:Int))/\O.cell? ⟨g,1,none⟩=some (.bool s)/\O.cell? ⟨g,2,none⟩=some (.slice p n c)/\O.cell? ⟨g,3,none⟩=some (.bool t)/\O.cell? ⟨g,4,none⟩=some (.slice q m1 d)/\O.cell? ⟨G,x.1,none⟩=some (.slice (some ⟨gl,ol,none⟩) (b.length+1) (cl+1)))from λO I=>⟨(I.cell (p:=⟨g,0,none⟩) (gL)).trans a0,(I.cell (p:=⟨g,1,none⟩) (gL)).trans a1,(I.cell (p:=⟨g,2,none⟩) (gL)).trans a2,(I.cell (p:=⟨g,3,none⟩) (gL)).trans a3,(I.cell (p:=⟨g,4,none⟩) (gL)).trans a4,(I.cell (p:=⟨G,x.1,none⟩) (pY)).trans l0⟩);have Y:Below H.heap.size H H.drew:=(Below.refl _ H).drew;have bB:H.heap.size<=H.heap.size:=kT _;have qB:H.drew.cell? ⟨g,0,none⟩=some (.int .i64 (x.1:Int))/\H.drew.cell? ⟨g,1,none⟩=some (.bool s)/\H.drew.cell? ⟨g,2,none⟩=some (.slice p n c)/\H.drew.cell? ⟨g,3,none⟩=some (.bool t)/\H.drew.cell? ⟨g,4,none⟩=some (.slice q m1 d)/\H.drew.cell? ⟨G,x.1,none⟩=some (.slice (some ⟨gl,ol,none⟩) (b.length+1) (cl+1)):=aJ.1 _ Y
        go_region_held3 (λO=>O.cell? ⟨g,0,none⟩=some (.int .i64 (x.1:Int))/\O.cell? ⟨g,1,none⟩=some (.bool s)/\O.cell? ⟨g,2,none⟩=some (.slice p n c)/\O.cell? ⟨g,3,none⟩=some (.bool t)/\O.cell? ⟨g,4,none⟩=some (.slice q m1 d)/\O.cell? ⟨G,x.1,none⟩=some (.slice (some ⟨gl,ol,none⟩) (b.length+1) (cl+1)))
         (first|with_reducible exact qB|with_reducible exact aJ.1 _ Y|exact aJ.1 _ (Y.alloc bB _))
         (first
          |(go_at_call 95;refine(gU.1 _ (by first|exact(Below.refl _ H).drew|exact Below.refl _ H)).mono ?_;rintro e w4 ⟨⟨v',rfl,hP⟩,aX⟩;have lD:=Kh (show Below H.heap.size H w4 from(by first|exact(Below.refl _ H).drew.trans aX|exact aX));have lG:=Kh (hP.base (B':=wi.heap.size) (kU J.1.size (Nat.le_succ _)));clear hP aX;have Y:=lD.1;have bB:H.heap.size<=w4.heap.size:=Y.size))
        all_goals go_wp2
        all_goals go_roundw
        all_goals first
         | exact⟨m+1,x.1+1,Rb L (x :: r),by have:=HM.1.1;have:=pF.1.1.1;omega,by omega,by rw[Et,aU.1],hZ.1.1,by rw[hZ.1.2.1,I];exact lG.1,J.1.trans (lD.1.mono J.1.size)⟩
         |(have h1:=Pd aD.1 (C:=C);have h2:=Xc (C:=C) (t:=x.1) (r:=Rb L (x :: r)) (by rw[hZ.1.2.1,I];exact lG.1) hZ.1.1.1 hV;exact Nat.lt_of_lt_of_eq h2 h1.symm)
  ·obtain rfl:k=R:=by omega
   go_wp2;go_ret;exact⟨⟨G,rfl,mS.1,aK.1⟩,oT.1.trans (aN.1.mono mS.1)⟩
end
end Go.Proofs.YtenlbhlllgppmaaGreatDoor
