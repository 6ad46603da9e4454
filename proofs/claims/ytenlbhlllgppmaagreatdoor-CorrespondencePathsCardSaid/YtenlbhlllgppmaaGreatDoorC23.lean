/- Contract of moved: a symbol times a matrix, as a vector. -/
import Derived.Test.YtenlbhlllgppmaaGreatDoorC22
set_option linter.unusedSimpArgs false
set_option maxRecDepth 100000
set_option maxHeartbeats 8000000
namespace Go.Proofs.YtenlbhlllgppmaaGreatDoor
section
open Go.RowKit Tryz
def Yl (m ix:Nat) (sg:Int) (h:Nat->Int) (k c:Nat):Int:=if c % m=ix/\c / m<k then sg*h (c / m)else 0
theorem Ym (m E:Nat) (sg:Int) (h:Nat->Int) (c:Nat):Yl m E sg h 0 c=0:=by unfold Yl;rw[if_neg (λh=>Nat.not_lt_zero _ h.2)]
theorem cY {m E:Nat} {sg:Int} {h:Nat->Int} {k c:Nat} (I:c≠k*m+E):Yl m E sg h k c=Yl m E sg h (k+1) c:=by
 unfold Yl;by_cases h1:c % m=E
 ·by_cases h2:c / m<k
  ·rw[if_pos ⟨h1,h2⟩,if_pos ⟨h1,by omega⟩]
  ·have J:c / m≠k:=λe=>I (by have:=Nat.div_add_mod c m;rw[e,h1,Nat.mul_comm]at this;exact this.symm)
   rw[if_neg (λh=>h2 h.2),if_neg (λh=>by have:=h.2;omega)]
 ·rw[if_neg (λh=>h1 h.1),if_neg (λh=>h1 h.1)]
theorem iA {m E:Nat} (sg:Int) (h:Nat->Int) {k:Nat} (I:E<m):Yl m E sg h (k+1) (k*m+E)=sg*h k:=by
 unfold Yl;have J:(k*m+E) % m=E:=by rw[Nat.mul_comm,Nat.mul_add_mod,Nat.mod_eq_of_lt I]
 have M:(k*m+E) / m=k:=by rw[Nat.mul_comm,Nat.mul_add_div (by omega),Nat.div_eq_of_lt I,Nat.add_zero]
 rw[if_pos ⟨J,by omega⟩,M]
theorem Wr (T B n wt:Nat) (L:List Nat) (f:Nat->Nat×Int) (i j:Nat) (a b c d:Int) (w:World) (h:WorldAt w T B n wt L f) (hB:B<=w.heap.size) (h0:0<n) (hn:n<=120) (tR:wt<=22) (hj:j<L.length) (hL:L.length<=14400) (rH:∀x,x∈L->x<n*n) (hf:TabOk L.length f)
  (ha:-1073741824<=a) (rK:a<=1073741824) (U:-1073741824<=b) (rL:b<=1073741824) (hc:-1073741824<=c) (rO:c<=1073741824) (hd:-1073741824<=d) (rP:d<=1073741824):
  Calls prog 93 #[.pointer (some ⟨T,0,none⟩),.int .i64 i,.int .i64 j,.agg #[.int .i64 a,.int .i64 b,.int .i64 c,.int .i64 d]] w λe w'=>(∃g,e=.returned (.slice (some ⟨g,0,none⟩) (((wt+1)*L.length:Nat)) (((wt+1)*L.length:Nat)))/\w.heap.size<=g/\ZRow (L8 n wt L f i j (a,b,c,d)) w' g ((wt+1)*L.length) ((wt+1)*L.length))/\Below w.heap.size w w':=by
 obtain⟨CC,hI⟩:∃x,(wt+1)*L.length=x:=⟨_,rfl⟩
 have vI:CC<=331200:=by rw[<-hI];exact Nat.mul_le_mul (by omega:wt+1<=23) hL
 obtain⟨aj,iL⟩:∃x,L[j]?=some x:=⟨_,List.getElem?_eq_getElem hj⟩
 have oB:=rH aj (List.mem_of_getElem? iL);have rS:L.getD j 0=aj:=by rw[List.getD_eq_getElem?_getD,iL];rfl
 obtain⟨u,hu⟩:∃x,aj / n=x:=⟨_,rfl⟩
 obtain⟨v,hv⟩:∃x,aj % n=x:=⟨_,rfl⟩
 have vO:u<n:=by rw[<-hu];exact Nat.div_lt_of_lt_mul oB
 have vP:v<n:=by rw[<-hv];exact Nat.mod_lt _ h0
 have hG:∀x:Int,∃r:Nat,x % (n:Int)=r/\r<n:=λx=>⟨(x % n).toNat,by have:=Int.emod_nonneg x (show(n:Int)≠0 by omega);omega,by have:=Int.emod_nonneg x (show(n:Int)≠0 by omega);have:=Int.emod_lt_of_pos x (show(0:Int)<n by omega);omega⟩
 obtain⟨ra,hQ,uK⟩:=hG a;obtain⟨rb,aX,uL⟩:=hG b;obtain⟨rc,pK,uM⟩:=hG c;obtain⟨rd,pL,uN⟩:=hG d;obtain⟨X,hX⟩:∃x:Nat,u*ra+v*rc=x:=⟨_,rfl⟩
 obtain⟨Y,hY⟩:∃x:Nat,u*rb+v*rd=x:=⟨_,rfl⟩
 obtain⟨pp,mE⟩:∃pp,f ((((X:Int) % n).toNat)*n+(((Y:Int) % n).toNat))=pp:=⟨_,rfl⟩
 have pI:=hf ((((X:Int) % n).toNat)*n+(((Y:Int) % n).toNat));rw[mE]at pI
 have qQ:=Kh (show L8 n wt L f i j (a,b,c,d)=λk=>if pp.2=0 then 0 else if k % L.length=pp.1/\k / L.length<=wt then pp.2*mv i a b c d wt (k / L.length)else 0 by
  unfold L8;dsimp only;rw[rS,hu,hv,hQ,aX,pK,pL];have e1:((u:Nat):Int)*(ra:Int)+(v:Int)*(rc:Int)=(X:Nat):=by rw[<-hX];push_cast;rfl
  have e2:((u:Nat):Int)*(rb:Int)+(v:Int)*(rd:Int)=(Y:Nat):=by rw[<-hY];push_cast;rfl
  rw[e1,e2,mE])
 rw[qQ.1,hI];have qL:=Kh (λW (U:Below w.heap.size w W)=>hI▸J0 T B n wt L f W (h.keep hB U) tR hL);have hU:=Kh (λW (U:Below w.heap.size w W)=>hQ▸Hw T B n wt L f a W (h.keep hB U) h0 hn);have gP:=Kh (λW (U:Below w.heap.size w W)=>aX▸Hw T B n wt L f b W (h.keep hB U) h0 hn);have oK:=Kh (λW (U:Below w.heap.size w W)=>pK▸Hw T B n wt L f c W (h.keep hB U) h0 hn);have oL:=Kh (λW (U:Below w.heap.size w W)=>pL▸Hw T B n wt L f d W (h.keep hB U) h0 hn);have sQ:=Kh (λW (U:Below w.heap.size w W)=>mE▸eN T B n wt L f X Y W (h.keep hB U) (nM hB U.size) h0 hn);have hV:=Kh (λW (U:Below w.heap.size w W)=>h.keep hB U);have tN:=Yi CC (by omega);have qV:=Kh pI;have sP:=Kh iL;have HU:=Kh (And.intro hu hv);have rB:=Kh (And.intro hX hY);have V:=Kh (And.intro (And.intro ha rK) (And.intro (And.intro U rL) (And.intro (And.intro hc rO) (And.intro hd rP))));have sT:=Kh hI;clear h hf ha rK U rL hc rO hd rP pI iL rS hu hv hG hQ aX pK pL hX hY mE oB hI rH qQ;go_enter func93,ntmps93
 go_wp2_with fail
 obtain⟨w0,rZ,X0,oX⟩:=bx1 w #[.int .i64 a,.int .i64 b,.int .i64 c,.int .i64 d] 63;rw[rZ];refine(qL.1 w0 oX).mono ?_;rintro e w1 ⟨rfl,m1,rfl⟩;have oY:Below w.heap.size w (w0.drewN m1):=Aa oX m1;have X1:=X0.below_ (Aa (Below.refl _ w0) m1) X0.lt;generalize w0.drewN m1=w1 at oY X1 ⊢;have sR:=Kh oY;have qY:=Kh X1;clear rZ X0 oX X1 oY qL;go_wp2_with fail
 have nQ:=ZRow.made (λ_=>0) w1 CC;obtain⟨wz,pM⟩:∃wz,w1.alloc (.cells (madeCells #[.bool false,.slice none 0 0] (CC*2)) 84)=wz:=⟨_,rfl⟩
 have rN:Below w1.heap.size w1 wz:=pM▸(Below.refl _ _).alloc (nL _) _;rw[pM]at nQ ⊢;obtain⟨go,mC⟩:∃g,w1.heap.size=g:=⟨_,rfl⟩
 have bA:=Kh (show w.heap.size<go by have:=qY.1.lt;omega);have qK:=Kh (show Below go w1 wz from mC▸rN);rw[mC]at nQ ⊢;have qW:=Kh nQ;have M:=Kh (show ∀W,Below go w1 W->Below w.heap.size w W from λW U=>sR.1.trans (U.mono (Nat.le_of_lt bA.1)));have oO:=Kh (show ∀W,Below go w1 W->Blk W w.heap.size 63 #[.int .i64 a,.int .i64 b,.int .i64 c,.int .i64 d]from λW U=>qY.1.below_ U bA.1);have uZ:=Kh mC;clear nQ pM rN mC tN;go_loopw [27] (λii wr=>∃k:Nat,k<=CC/\ii=.int .i64 k/\ZRow (λ_=>0) wr go CC k/\Below go w1 wr) (λii _=>CC - (intOf ii).toNat)
 case atStart=>exact⟨0,Nat.zero_le _,rfl,qW.1,qK.1⟩
 case round=>
  obtain⟨k,hk,rfl,cG,rM⟩:=hrel;obtain⟨w2,rfl⟩:∃w2:World,w2=wr:=⟨_,rfl⟩
  have cF:=Kh cG;have gA:=Kh rM;clear cG rM qW qK;by_cases hlt:k<CC
  ·have pH:(k:Int)<(CC:Int):=by omega
   go_wp2_with fail
   refine(Ge 0 w2 (by omega) (by omega)).mono ?_;rintro e w3 ⟨⟨s3,p3,n3,c3,rfl,sG⟩,dE⟩;have eX:=ZRow.keep cF.1 dE;have sV:=Kh (ZRow.set (k':=k+1) eX k hlt (λ_=>0) (λi' h1 h2=>⟨by omega,rfl⟩) sG);have aN:=Kh (gA.1.trans (dE.mono (Nat.le_of_lt cF.1.sts.1)));obtain⟨u0,tQ⟩:=nP (eX.has (k*2) (by omega));obtain⟨u2,hu2⟩:=nP (eX.has (k*2+1) (by omega));have f0:=eX.free (k*2) (by omega);have f1:=eX.free (k*2+1) (by omega);clear sG dE eX;go_wp2;go_roundw
   case rel=>exact⟨k+1,by omega,by go_num,sV.1,C4 aN.1 (nL _)⟩
   case measure=>simp[intOf];omega
  ·obtain rfl:CC=k:=by omega
   have sE:=hV.1 w2 (M.1 w2 gA.1);obtain⟨pl,cl,t2,rY⟩:=sE.c2;rcases rY with⟨tO,_⟩ |⟨gL,uB,e,_,hx⟩
   ·rw[tO]at hj;simp at hj
   cases e;obtain⟨p0,p1,_⟩:=hx j aj sP.1;rw[HU.1.1]at p0;rw[HU.1.2]at p1;have vJ:(j:Int)<(L.length:Int):=by omega
   have X2:=oO.1 w2 gA.1;have x0:=X2.at_ 0 rfl;have x1:=X2.at_ 1 rfl;have x2:=X2.at_ 2 rfl;have x3:=X2.at_ 3 rfl;clear sE hx X2;go_wp2_with fail
   go_quiet (fail)
   generalize hw3:w2.drewN nq=w3;have dE:Below w2.heap.size w2 w3:=hw3▸Aa (Below.refl _ _) nq;have aN:=Kh (gA.1.trans (dE.mono (Nat.le_of_lt cF.1.sts.1)));have cM:=Kh (ZRow.keep cF.1 dE);have X2:=oO.1 w3 aN.1;have x0:=X2.at_ 0 rfl;have x1:=X2.at_ 1 rfl;have x2:=X2.at_ 2 rfl;have x3:=X2.at_ 3 rfl;have hQ:=hU.1 w3 (M.1 w3 aN.1);have hU:=Kh (λm=>hU.1 (w3.drewN m) (M.1 _ (Aa aN.1 m)));have gP:=Kh (λm=>gP.1 (w3.drewN m) (M.1 _ (Aa aN.1 m)));have oK:=Kh (λm=>oK.1 (w3.drewN m) (M.1 _ (Aa aN.1 m)));have oL:=Kh (λm=>oL.1 (w3.drewN m) (M.1 _ (Aa aN.1 m)));clear hw3 dE X2 p0 p1 t2 gA cF hQ;go_wp2_with fail
   go_quiet (first|with_reducible exact Calls.quiet_of_same (hU.1 _)|with_reducible exact Calls.quiet_of_same (gP.1 _)|with_reducible exact Calls.quiet_of_same (oK.1 _)|with_reducible exact Calls.quiet_of_same (oL.1 _))
   generalize hw4:w3.drewN nq=w4;have oZ:Below w3.heap.size w3 w4:=hw4▸Aa (Below.refl _ _) nq;have oD:=Kh (aN.1.trans (oZ.mono (Nat.le_of_lt cM.1.sts.1)));have cS:=Kh (ZRow.keep cM.1 oZ);have rI:(u:Int)*(ra:Int)+(v:Int)*(rc:Int)=(X:Nat):=by rw[<-rB.1.1];push_cast;rfl
   have rJ:(u:Int)*(rb:Int)+(v:Int)*(rd:Int)=(Y:Nat):=by rw[<-rB.1.2];push_cast;rfl
   obtain⟨S1,oS⟩:∃x:Nat,u*ra=x:=⟨_,rfl⟩
   obtain⟨S2,oT⟩:∃x:Nat,v*rc=x:=⟨_,rfl⟩
   obtain⟨S3,oU⟩:∃x:Nat,u*rb=x:=⟨_,rfl⟩
   obtain⟨S4,oV⟩:∃x:Nat,v*rd=x:=⟨_,rfl⟩
   have k1:(u:Int)*(ra:Int)=(S1:Nat):=by rw[<-oS];push_cast;rfl
   have k2:(v:Int)*(rc:Int)=(S2:Nat):=by rw[<-oT];push_cast;rfl
   have k3:(u:Int)*(rb:Int)=(S3:Nat):=by rw[<-oU];push_cast;rfl
   have k4:(v:Int)*(rd:Int)=(S4:Nat):=by rw[<-oV];push_cast;rfl
   have l1:S1<=14400:=by rw[<-oS];exact Nat.mul_le_mul (by omega:u<=120) (by omega:ra<=120)
   have l2:S2<=14400:=by rw[<-oT];exact Nat.mul_le_mul (by omega:v<=120) (by omega:rc<=120)
   have l3:S3<=14400:=by rw[<-oU];exact Nat.mul_le_mul (by omega:u<=120) (by omega:rb<=120)
   have l4:S4<=14400:=by rw[<-oV];exact Nat.mul_le_mul (by omega:v<=120) (by omega:rd<=120)
   rw[k1,k2]at rI;rw[k3,k4]at rJ;clear hw4 oZ x0 x1 x2 x3 oS oT oU oV cM aN;go_wp2_with fail
   refine(sQ.1 w4 (M.1 w4 oD.1)).mono ?_;rintro e w5 ⟨rfl,pE⟩;obtain⟨ix,sg⟩:=pp;have hT:=Kh (oD.1.trans (pE.mono (Nat.le_of_lt cS.1.sts.1)));have Z:=Kh (ZRow.keep cS.1 pE);clear pE k1 k2 k3 k4 l1 l2 l3 l4 rI rJ cS oD;dsimp only;by_cases hs0:sg=0
   ·subst hs0
    have HZ:=Kh (show ZRow (λk=>if((ix,(0:Int)):Nat×Int).2=0 then 0 else if k % L.length=((ix,(0:Int)):Nat×Int).1/\k / L.length<=wt then((ix,(0:Int)):Nat×Int).2*mv i a b c d wt (k / L.length)else 0) w5 go CC CC from Z.1.congr (λj _=>by rw[if_pos rfl]));go_wp2;go_ret;exact⟨⟨go,rfl,Nat.le_of_lt bA.1,ZRow.keep Z.1 ((Below.refl _ _).alloc (nL _) _)⟩,(M.1 w5 hT.1).alloc (M.1 w5 hT.1).size _⟩
   ·have rX:sg=1∨sg=-1:=by
     rcases qV.1 with h |⟨_,h|h|h⟩
     ·injection h with _ h;exact absurd h hs0
     ·exact absurd h hs0
     ·exact .inl h
     ·exact .inr h
    have tL:ix<L.length:=by
     rcases qV.1 with h |⟨h,_⟩
     ·injection h with _ h;exact absurd h hs0
     ·exact h
    have vM:(sg==0)=false:=by simpa using hs0
    have oJ:=Kh rX;clear rX;go_wp2_with fail
    obtain⟨w6,nR⟩:∃w6,w5.alloc (.cells #[.int .i64 (ix:Int),.int .i64 sg] 215)=w6:=⟨_,rfl⟩
    have hM:Below w5.heap.size w5 w6:=nR▸(Below.refl _ _).alloc (nL _) _;have X6:=nR▸Blk.new w5 215 #[.int .i64 (ix:Int),.int .i64 sg];rw[nR];refine(Ge sg w6 (by rcases oJ.1 with h|h <;> omega) (by rcases oJ.1 with h|h <;> omega)).mono ?_;rintro e w7 ⟨⟨s0,p0,n0,c0,rfl,sF⟩,mA⟩;have X7:=X6.below_ mA X6.lt;have qZ:=Kh X7;have qO:=Kh (show go<w5.heap.size from Z.1.sts.1);have bC:=Kh (ZRow.keep Z.1 (hM.trans (mA.mono hM.size)));have qI:=Kh (hT.1.trans ((hM.trans (mA.mono hM.size)).mono (Nat.le_of_lt Z.1.sts.1)));have rC:=Kh sF;clear nR hM X6 X7 sF mA hT Z;go_wp2_with fail
    obtain⟨w8,nS⟩:∃w8,w7.alloc (.cells #[.bool s0,.slice p0 n0 c0] 84)=w8:=⟨_,rfl⟩
    have hN:Below w7.heap.size w7 w8:=nS▸(Below.refl _ _).alloc (nL _) _;have X8:=nS▸Blk.new w7 84 #[.bool s0,.slice p0 n0 c0];rw[nS];have oN:=Kh (bk qZ hN);have cT:=Kh (ZRow.keep bC.1 hN);have qJ:=Kh (qI.1.trans (hN.mono (Nat.le_of_lt bC.1.sts.1)))
    have oP:=Kh (show ZE (sg*mv i a b c d 0 0) w8 w7.heap.size (0*2)from⟨s0,p0,n0,c0,X8.at_ 0 rfl,X8.at_ 1 rfl,by
     have h:=rC.1.keep hN;have e:sg*mv i a b c d 0 0=sg:=by rw[mv];simp
     rw[e];exact h⟩)
    have oF:=Kh (show go<w7.heap.size from bC.1.sts.1);have oH:=Kh X8.lt;obtain⟨g7,rQ⟩:∃x,w7.heap.size=x:=⟨_,rfl⟩
    rw[rQ]at oP oF oH ⊢;have qR:=Kh (λW=>Ge a W (by have:=V.1;omega) (by have:=V.1;omega));have qS:=Kh (λW=>Ge b W (by have:=V.1;omega) (by have:=V.1;omega));have qT:=Kh (λW=>Ge c W (by have:=V.1;omega) (by have:=V.1;omega));have qU:=Kh (λW=>Ge d W (by have:=V.1;omega) (by have:=V.1;omega));have bY:=Kh (show nd a.natAbs<=2/\nd b.natAbs<=2/\nd c.natAbs<=2/\nd d.natAbs<=2 from⟨Cq V.1.1.1 V.1.1.2,Cq V.1.2.1.1 V.1.2.1.2,Cq V.1.2.2.1.1 V.1.2.2.1.2,Cq V.1.2.2.2.1 V.1.2.2.2.2⟩);clear nS hN X8 qZ bC qI rC rQ;go_loopw [18,19] (λvp vk wr=>∃(k gp cp:Nat),k<=wt/\vk=.int .i64 k/\vp=.slice (some ⟨gp,0,none⟩) (k+1) cp/\go<gp/\gp<wr.heap.size/\(∀O,O<k+1->ZE (sg*mv i a b c d k O) wr gp (O*2))/\Below w8.heap.size w8 wr) (λ_ vk _=>wt - (intOf vk).toNat)
    case atStart=>exact⟨0,g7,1,Nat.zero_le _,rfl,rfl,oF.1,oH.1,λO eT=>by obtain rfl:O=0:=(by omega);exact oP.1,Below.refl _ _⟩
    case round=>
     obtain⟨k,gp,cp,hk,rfl,rfl,rT,pG,pR,pF⟩:=hrel;obtain⟨E,rfl⟩:∃E:World,E=wr:=⟨_,rfl⟩
     have cI:=Kh pF;have sU:=Kh rT;have nY:=Kh (show go<E.heap.size by omega);have uY:=Kh pG;have oQ:=Kh (show ∀W,Below E.heap.size E W->ZL (λO=>sg*mv i a b c d k O) W (.slice (some ⟨gp,0,none⟩) (k+1) cp) (k+1)from λW U=>.inr ⟨gp,0,cp,rfl,nN pG U.size,λO eT=>by rw[Nat.zero_add];exact(pR O eT).keep U⟩);have rD:=Kh pR;have eF:=Kh (show Below go w1 E from qJ.1.trans (pF.mono (Nat.le_of_lt cT.1.sts.1)));have X9:=oO.1 E eF.1;have t1:=(hV.1 E (M.1 E eF.1)).c1
     have oM:=Kh (show ∀O,nd (sg*mv i a b c d k O).natAbs<=1000 from λO=>by
      have h1:=Ss i a b c d bY.1.1 bY.1.2.1 bY.1.2.2.1 bY.1.2.2.2 k O
      have h2:(sg*mv i a b c d k O).natAbs=(mv i a b c d k O).natAbs:=by
       rw[Int.natAbs_mul];rcases oJ.1 with h|h <;> rw[h] <;> simp
      rw[h2];omega)
     clear rT pG pR pF oP oF oH;by_cases hkw:k<wt
     ·have uJ:(k:Int)<(wt:Int):=by omega
      have b0:=X9.at_ 0 rfl;have b1:=X9.at_ 1 rfl;have b2:=X9.at_ 2 rfl;have b3:=X9.at_ 3 rfl;clear X9;by_cases pH:k<i
      ·have rW:(k:Int)<(i:Int):=by omega
       have gU:=Kh (show ∀W,Below E.heap.size E W->(W.cell? ⟨w.heap.size,0,none⟩=some (.int .i64 a)/\W.cell? ⟨w.heap.size,1,none⟩=some (.int .i64 b))from λW U=>⟨Ad U b0,Ad U b1⟩);have eP:=gU.1 _ (Below.refl _ E).drew;have gF:=Kh (show ∀wb,Below E.drew.heap.size E.drew wb->Below E.heap.size E wb from λwb U=>(Below.refl _ E).drew.trans U);have gI:=Kh (show ∀wa wb,Below E.heap.size E wa->Below wa.heap.size wa wb->Below E.heap.size E wb from λwa wb h1 h2=>h1.trans (h2.mono h1.size));have oI:=Kh (show ∀O,sg*mv i a b c d (k+1) O=lin a b (λO=>sg*mv i a b c d k O) O from λO=>by rw[L6,mv,if_pos pH]);clear b0 b1 b2 b3;go_upto_region 17 with(fail)
       go_region_held3 (λW=>W.cell? ⟨w.heap.size,0,none⟩=some (.int .i64 a)/\W.cell? ⟨w.heap.size,1,none⟩=some (.int .i64 b))
        (first|with_reducible exact eP|with_reducible exact gU.1 _ J |(exfalso;assumption))
        (first
         |(go_at_call 83;(with_reducible refine(qR.1 _).mono ?_);rintro e dY ⟨⟨sA,pA,nA,cA,rfl,pN⟩,I⟩;have J:Below E.heap.size E dY:=(by first|exact gI.1 _ _ J I|exact gF.1 _ I))
         |(go_at_call 83;(with_reducible refine(qS.1 _).mono ?_);rintro e dY ⟨⟨sB,pB,nB,cB,rfl,pO⟩,I⟩;have J:Below E.heap.size E dY:=(by first|exact gI.1 _ _ J I|exact gF.1 _ I))
         |(go_at_call 145;refine(Ov _ (k+1) (λO=>sg*mv i a b c d k O) sA pA nA cA a sB pB nB cB b _ (oQ.1 _ J) (by first|exact pN|exact pN.keep I) (by first|exact pO|exact pO.keep I) (by omega) (by omega) (by rw[<-pN.2.1];have:=bY.1;omega) (by rw[<-pO.2.1];have:=bY.1;omega) oM.1 (λO h=>by rw[Jc _ _ _ _ _ _ _ (by omega),Int.mul_zero])).mono ?_;rintro e pU ⟨⟨gN,rfl,hO,hR⟩,hJ⟩;have hP:=Kh (nM J.size hO);have J:Below E.heap.size E pU:=Below.trans J (hJ.mono J.size);have hD:=Kh hR;have oE:=Kh J;clear hR hO))
       all_goals go_wp2
       all_goals go_roundw
       all_goals first
        | exact⟨k+1,gN,_,by omega,by go_num,rfl,nN nY.1 hP.1,hD.1.sts.1,λO eT=>by rw[oI.1];exact hD.1.val O eT,cI.1.trans (oE.1.mono cI.1.size)⟩
        |(simp[intOf];omega)
      ·have rW:¬((k:Int)<(i:Int)):=by omega
       have gU:=Kh (show ∀W,Below E.heap.size E W->(W.cell? ⟨w.heap.size,2,none⟩=some (.int .i64 c)/\W.cell? ⟨w.heap.size,3,none⟩=some (.int .i64 d))from λW U=>⟨Ad U b2,Ad U b3⟩);have eP:=gU.1 _ (Below.refl _ E).drew;have gF:=Kh (show ∀wb,Below E.drew.heap.size E.drew wb->Below E.heap.size E wb from λwb U=>(Below.refl _ E).drew.trans U);have gI:=Kh (show ∀wa wb,Below E.heap.size E wa->Below wa.heap.size wa wb->Below E.heap.size E wb from λwa wb h1 h2=>h1.trans (h2.mono h1.size));have oI:=Kh (show ∀O,sg*mv i a b c d (k+1) O=lin c d (λO=>sg*mv i a b c d k O) O from λO=>by rw[L6,mv,if_neg pH]);clear b0 b1 b2 b3;go_upto_region 18 with(fail)
       go_region_held3 (λW=>W.cell? ⟨w.heap.size,2,none⟩=some (.int .i64 c)/\W.cell? ⟨w.heap.size,3,none⟩=some (.int .i64 d))
        (first|with_reducible exact eP|with_reducible exact gU.1 _ J |(exfalso;assumption))
        (first
         |(go_at_call 83;(with_reducible refine(qT.1 _).mono ?_);rintro e dY ⟨⟨sC,pC,nC,cC,rfl,pP⟩,I⟩;have J:Below E.heap.size E dY:=(by first|exact gI.1 _ _ J I|exact gF.1 _ I))
         |(go_at_call 83;(with_reducible refine(qU.1 _).mono ?_);rintro e dY ⟨⟨sD,pD,nD,cD,rfl,pQ⟩,I⟩;have J:Below E.heap.size E dY:=(by first|exact gI.1 _ _ J I|exact gF.1 _ I))
         |(go_at_call 145;refine(Ov _ (k+1) (λO=>sg*mv i a b c d k O) sC pC nC cC c sD pD nD cD d _ (oQ.1 _ J) (by first|exact pP|exact pP.keep I) (by first|exact pQ|exact pQ.keep I) (by omega) (by omega) (by rw[<-pP.2.1];have:=bY.1;omega) (by rw[<-pQ.2.1];have:=bY.1;omega) oM.1 (λO h=>by rw[Jc _ _ _ _ _ _ _ (by omega),Int.mul_zero])).mono ?_;rintro e pU ⟨⟨gN,rfl,hO,hR⟩,hJ⟩;have hP:=Kh (nM J.size hO);have J:Below E.heap.size E pU:=Below.trans J (hJ.mono J.size);have hD:=Kh hR;have oE:=Kh J;clear hR hO))
       all_goals go_wp2
       all_goals go_roundw
       all_goals first
        | exact⟨k+1,gN,_,by omega,by go_num,rfl,nN nY.1 hP.1,hD.1.sts.1,λO eT=>by rw[oI.1];exact hD.1.val O eT,cI.1.trans (oE.1.mono cI.1.size)⟩
        |(simp[intOf];omega)
     ·obtain rfl:wt=k:=by omega
      have gS:=Kh (show ZRow (Yl L.length ix sg (mv i a b c d wt) 0) E go CC CC from ZRow.congr (ZRow.keep cT.1 cI.1) (λj _=>(Ym _ _ _ _ _).symm));have rA:=Kh (oN.1.below_ cI.1 oN.1.lt);obtain⟨gq,rU⟩:∃x,w5.heap.size=x:=⟨_,rfl⟩
      rw[rU]at rA qO ⊢;obtain⟨nU,hW,t2,_⟩:=(hV.1 E (M.1 E eF.1)).c2;have sX:=Kh t2;have sY:=Kh (show T<go from nN (hV.1 w (Below.refl _ _)).lt (nM hB (Nat.le_of_lt bA.1)));have qX:=Kh (M.1 E eF.1);clear rU X9 t2 oQ oM cT oN qJ cI qR qS qT qU;go_wp2_with fail
      go_loopw [120] (λii wr=>∃q:Nat,q<=wt+1/\ii=.int .i64 q/\ZRow (Yl L.length ix sg (mv i a b c d wt) q) wr go CC CC/\E.grownBy wr (some go)) (λii _=>wt+1 - (intOf ii).toNat)
      case atStart=>exact⟨0,Nat.zero_le _,rfl,gS.1,Ag go (Below.refl _ _)⟩
      case round=>
       obtain⟨q,hq,rfl,cG,rV⟩:=hrel;obtain⟨we,rfl⟩:∃we:World,we=wr:=⟨_,rfl⟩
       have cX:=Kh cG;have oG:=Kh rV;have oW:T≠go:=Nat.ne_of_lt sY.1;have tP:gp≠go:=Nat.ne_of_gt sU.1;have pJ:gq≠go:=Nat.ne_of_gt qO.1;clear cG rV;by_cases hlt:q<wt+1
       ·have vL:(q:Int)<((wt+1:Nat):Int):=by omega
        obtain⟨s,p,n5,c5,a0,a1,hz⟩:=ZE.but gS.1.sts oG.1 tP (rD.1 q hlt);have HZ:=Kh hz;clear hz;go_wp2_with fail
        obtain⟨wb,nT⟩:∃wb,we.alloc (.cells #[.bool s,.slice p n5 c5] 84)=wb:=⟨_,rfl⟩
        have mB:Below we.heap.size we wb:=nT▸(Below.refl _ _).alloc (nL _) _;have X:=nT▸Blk.new we 84 #[.bool s,.slice p n5 c5];rw[nT];obtain⟨gb,rR⟩:∃gb,we.heap.size=gb:=⟨_,rfl⟩
        have aX:=ZRow.keep cX.1 mB;have eG:gb≠go:=by have:=cX.1.sts.1;omega
        have mD:=oG.1.trans (Ag go mB);rw[rR]at X ⊢;obtain⟨QL,hZ⟩:∃x,q*L.length=x:=⟨_,rfl⟩
        obtain⟨IX,oR⟩:∃x,QL+ix=x:=⟨_,rfl⟩
        have rG:IX<CC:=by
         rw[<-oR,<-hZ,<-sT.1];have h1:q*L.length+L.length<=(wt+1)*L.length:=by rw[<-Nat.succ_mul];exact Nat.mul_le_mul_right _ hlt
         omega
        have qP:=Kh (show IX=q*L.length+ix by rw[<-oR,<-hZ]);have e1:(q:Int)*(L.length:Int)=(QL:Nat):=by rw[<-hZ];push_cast;rfl
        have e2:(QL:Int)+(ix:Int)=(IX:Nat):=by omega
        have v1:IntKind.i64.wrap (QL:Int)=(QL:Nat):=IntWalk.i64_in _ (by omega);have v2:IntKind.i64.wrap (IX:Int)=(IX:Nat):=IntWalk.i64_in _ (by omega);have i0:(0:Int)<=(IX:Int):=by omega
        have i1:(IX:Int)<(CC:Int):=by omega
        have t2:=mD.cell sX.1 (λe=>by injection e with e;exact oW e);have x0:=mD.cell (rA.1.at_ 0 rfl) (λe=>by injection e with e;exact pJ e);have b0:=X.at_ 0 rfl;have b1:=X.at_ 1 rfl;obtain⟨u0,tQ⟩:=nP (aX.has (IX*2) (by omega));obtain⟨u1,vN⟩:=nP (aX.has (IX*2+1) (by omega));have f0:=aX.free (IX*2) (by omega);have f1:=aX.free (IX*2+1) (by omega);have eP:wb.drew.cell? ⟨T,2,none⟩=some (.slice nU L.length hW)/\wb.drew.cell? ⟨gq,0,none⟩=some (.int .i64 (ix:Int))/\wb.drew.cell? ⟨gb,0,none⟩=some (.bool s)/\wb.drew.cell? ⟨gb,1,none⟩=some (.slice p n5 c5):=⟨t2,x0,b0,b1⟩
        have sW:=Kh (show ∀(X:World) (v1 v2:Value),(X.cell? ⟨T,2,none⟩=some (.slice nU L.length hW)/\X.cell? ⟨gq,0,none⟩=some (.int .i64 (ix:Int))/\X.cell? ⟨gb,0,none⟩=some (.bool s)/\X.cell? ⟨gb,1,none⟩=some (.slice p n5 c5))->(((X.setCell ⟨go,IX*2,none⟩ v1).setCell ⟨go,IX*2+1,none⟩ v2).cell? ⟨T,2,none⟩=some (.slice nU L.length hW)/\((X.setCell ⟨go,IX*2,none⟩ v1).setCell ⟨go,IX*2+1,none⟩ v2).cell? ⟨gq,0,none⟩=some (.int .i64 (ix:Int))/\((X.setCell ⟨go,IX*2,none⟩ v1).setCell ⟨go,IX*2+1,none⟩ v2).cell? ⟨gb,0,none⟩=some (.bool s)/\((X.setCell ⟨go,IX*2,none⟩ v1).setCell ⟨go,IX*2+1,none⟩ v2).cell? ⟨gb,1,none⟩=some (.slice p n5 c5))from λX v1 v2 h=>⟨by rw[World.cell?_setCell_far _ _ _ _ (by exact oW.symm),World.cell?_setCell_far _ _ _ _ (by exact oW.symm)];exact h.1,by rw[World.cell?_setCell_far _ _ _ _ (by exact pJ.symm),World.cell?_setCell_far _ _ _ _ (by exact pJ.symm)];exact h.2.1,by rw[World.cell?_setCell_far _ _ _ _ (by exact eG.symm),World.cell?_setCell_far _ _ _ _ (by exact eG.symm)];exact h.2.2.1,by rw[World.cell?_setCell_far _ _ _ _ (by exact eG.symm),World.cell?_setCell_far _ _ _ _ (by exact eG.symm)];exact h.2.2.2⟩);have gP:=Kh aX;have qN:=Kh mD;have tA:=Kh (HZ.1.keep mB);clear hZ oR aX mD X nT mB b0 b1 t2 x0 rR a0 a1 HZ;go_upto_region 22 with(fail)
        go_region_held3 (λw'=>w'.cell? ⟨T,2,none⟩=some (.slice nU L.length hW)/\w'.cell? ⟨gq,0,none⟩=some (.int .i64 (ix:Int))/\w'.cell? ⟨gb,0,none⟩=some (.bool s)/\w'.cell? ⟨gb,1,none⟩=some (.slice p n5 c5))
         (first|with_reducible exact eP|exact sW.1 _ _ _ eP)
         (fail)
        all_goals go_wp2
        all_goals go_roundw
        all_goals first
         | exact⟨q+1,by omega,by go_num,ZRow.set (k':=CC) (ZRow.keep gP.1 (Below.refl _ wb).drew) IX rG (Yl L.length ix sg (mv i a b c d wt) (q+1)) (λc' h1 h2=>⟨h1,cY (by rw[<-qP.1];exact h2)⟩) (by rw[qP.1,iA sg _ tL];exact tA.1.keep (Below.refl _ wb).drew),(qN.1.trans (Ag go (Below.refl _ wb).drew)).trans (Jv _ go _ _ _ _)⟩
         |(simp[intOf];omega)
       ·obtain rfl:wt+1=q:=by omega
        have qM:=Kh (show ZRow (λk=>if k % L.length=ix/\k / L.length<=wt then sg*mv i a b c d wt (k / L.length)else 0) we go CC CC from cX.1.congr (λc' _=>by
         unfold Yl;by_cases h1:c' % L.length=ix/\c' / L.length<=wt
         ·rw[if_pos h1,if_pos ⟨h1.1,by omega⟩]
         ·rw[if_neg h1,if_neg (λh=>h1 ⟨h.1,by omega⟩)]))
        have sS:=Kh (Aq qX.1 oG.1 qX.1.size (Nat.le_of_lt bA.1));go_wp2;go_ret;exact⟨⟨go,rfl,Nat.le_of_lt bA.1,qM.1⟩,sS.1⟩
end
section
open Go.RowKit Eli Tryz
def Bx (C:Nat) (f:Nat->Int) (i q:Nat):Int:=if q<C then f (i*C+q)else 0
theorem C6 {C:Nat} {f:Nat->Int} (E:∀j,(f j).natAbs<=16777216) (i q:Nat):(Bx C f i q).natAbs<=16777216:=by
 unfold Bx;split
 ·exact E _
 ·simp
theorem Yk {C t:Nat} {w:World} {B:Nat} {v:Value} {r:List (Nat×Rat)} (h:OwnT r w B v) (E:Ord C (t+1) r) (M:t<C):lG C w v<C+1 - t:=by
 cases r with
 | nil=>rw[cW h];omega
 | cons y r=>rw[Pk h];have I:=E.1;have J:=E.2.1;omega
theorem gT {x:Rat} (h:x≠0):hq (1 / x)<=hq x:=by
 have J:x.num≠0:=λe=>h (Rat.num_eq_zero.1 e)
 rw[<-Pw 1 x];have E:(1:Rat).num=1:=rfl;have I:(1:Rat).den=1:=rfl;rw[E,I,Int.one_mul,Int.natCast_one,Int.one_mul];exact C9 J (by rw[Int.natAbs_natCast];exact Ff x) (Er x)
theorem Dt (C:Nat) (f:Nat->Int) (i q:Nat) (h:C<=q):Bx C f i q=0:=by unfold Bx;rw[if_neg (by omega)]
theorem Oo (R C gA oA cA:Nat) (f:Nat->Int) (w:World) (hg:gA<w.heap.size) (hA:∀j,j<R*C->ZE (f j) w gA (oA+j*2)) (hR:R<=1000) (h0:0<C) (hC:C<=72) (nB:R*C<=cA) (hB:cA<=9223372036854775807) (hf:∀j,(f j).natAbs<=16777216):
  Calls prog 48 #[.agg #[.int .i64 R,.int .i64 C,.slice (some ⟨gA,oA,none⟩) (R*C:Nat) cA]] w λe w'=>(∃G,e=.returned (.slice (some ⟨G,0,none⟩) C C)/\w.heap.size<=G/\LeadTab (elim C (Bx C f) R) w' G C w'.heap.size)/\Below w.heap.size w w':=by
 have HA:=Kh hA;have oT:=Kh (And.intro nB hB);have nX:=Kh (λk=>Good.elim (n:=C) (B:=16777216) (by omega) (C6 hf) (Dt C f) k);have pD:=Kh (C6 (C:=C) hf);have gN:=Kh (Nx (n:=C) (B:=16777216) hC (nL _));have HF:=Kh hf;have sH:=kM C (by omega);obtain⟨RC,oD⟩:∃n,R*C=n:=⟨_,rfl⟩
 rw[oD];clear hA nB hB hf;go_enter func48,ntmps48
 go_wp2_with fail
 obtain⟨wm,hY⟩:∃wm,w.alloc (.cells #[.int .i64 R,.int .i64 C,.slice (some ⟨gA,oA,none⟩) RC cA] 99)=wm:=⟨_,rfl⟩
 obtain⟨X0,gS⟩:=Qk w #[.int .i64 R,.int .i64 C,.slice (some ⟨gA,oA,none⟩) RC cA] 99;rw[hY]at X0 gS;have hM:wm.heap.size=w.heap.size+1:=by rw[<-hY];simp
 have HT:=Kh (LeadTab.made wm C);obtain⟨wn,hN⟩:∃wn,wm.alloc (.cells (madeCells #[.slice none 0 0] C) 107)=wn:=⟨_,rfl⟩
 have oF:Below wm.heap.size wm wn:=hN▸(Below.refl _ _).alloc (nL _) _;have hX:wn.heap.size=wm.heap.size+1:=by rw[<-hN];simp
 rw[hN]at HT;rw[hY,hN];obtain⟨G,hG⟩:∃G,w.heap.size+1=G:=⟨_,rfl⟩
 rw[hG]at hM ⊢;obtain⟨gm,qB⟩:∃gm,w.heap.size=gm:=⟨_,rfl⟩
 have nW:=Kh (show gm<G by omega);have qV:=Kh (show Below w.heap.size w wm from gS);have oW:=Kh (show w.heap.size<=G by omega);rw[hM]at HT oF hX;rw[qB]at X0 ⊢;have HX:=Kh X0;have oR:=Kh oF;have tP:=Kh hX;have qS:=Kh (nN hg gS.size);have qU:=Kh (λj (hj:j<R*C)=>(HA.1 j hj).keep gS);have gP:=Kh hM;rw[hM]at qS;have pE:=Kh (HT.1.up (Nat.le_of_eq hX.symm));clear X0 hY hN oF hX gS hM sH HA HT hG qB hg;go_loopw [4] (λi wr=>∃k:Nat,k<=R/\i=.int .i64 k/\LeadTab (elim C (Bx C f) k) wr G C wr.heap.size/\Below G wm wr) (λi _=>R - (intOf i).toNat)
 case atStart=>exact⟨0,Nat.zero_le _,rfl,pE.1,oR.1⟩
 case round=>
  obtain⟨k,hk,rfl,nC,gU⟩:=hrel;obtain⟨wi,rfl⟩:∃wi:World,wi=wr:=⟨_,rfl⟩
  have aN:=Kh nC;have bA:=Kh gU;have x0:=(HX.1.below_ gU nW.1).at_ 0 rfl;have x1:=(HX.1.below_ gU nW.1).at_ 1 rfl;have x2:=(HX.1.below_ gU nW.1).at_ 2 rfl;clear nC gU pE oR;by_cases hlt:k<R
  ·obtain⟨KC,hV⟩:∃n,k*C=n:=⟨_,rfl⟩
   have rB:=Kh (show KC+C<=RC by
    have h1:=Nat.mul_le_mul_right C (show k+1<=R by omega);rw[Nat.succ_mul]at h1;omega)
   have e1:(k:Int)*(C:Int)=(KC:Nat):=by rw[<-hV];push_cast;rfl
   have e2:((k:Int)+1)*(C:Int)=((KC+C:Nat)):=by rw[Int.add_mul,e1];push_cast;omega
   have qA:=oT.1;rw[oD]at qA;have sG:=rB.1;have tO:=Kh hV
   have qT:=Kh (λj (hj:j<C)=>show ZE (Bx C f k j) wm gA (oA+KC*2+j*2)by
    have h:=qU.1 (KC+j) (by rw[oD];omega);rw[show oA+(KC+j)*2=oA+KC*2+j*2 by omega]at h;unfold Bx;rw[if_pos hj,hV];exact h)
   clear hV;go_wp2_with fail
   rw[show KC+C - KC=C by omega];have tX:C<=cA - KC:=by omega
   clear e1 e2 qA sG x0 x1 x2;have qY:=Kh (show ∀M,Below wi.heap.size wi M->Below wm.heap.size wm M from λM I=>gP.1▸(bA.1.trans (I.mono (gP.1▸bA.1.size))));go_loopw [5,33] (λv ii w2=>∃j:Nat,j<=C/\ii=.int .i64 j/\OwnT (Qf (Bx C f k) j) w2 wi.heap.size v/\Below wi.heap.size wi w2) (λ_ ii _=>C - (intOf ii).toNat)
   case atStart=>exact⟨0,Nat.zero_le _,rfl,OwnT.nil _ _,Below.refl _ _⟩
   case round=>
    obtain⟨j,hj,rfl,U,eG⟩:=hrel;obtain⟨w2,rfl⟩:∃w2:World,w2=wr:=⟨_,rfl⟩
    have aD:=Kh U;have bY:=Kh eG;clear U eG;by_cases hjc:j<C
    ·have sY:(j:Int)<(C:Int):=by omega
     obtain⟨s,p,n,c,a0,a1,hz⟩:=(qT.1 j hjc).keep (qY.1 _ bY.1);have HZ:=Kh hz;have HN:=Kh (show n<=1 by rw[<-hz.2.1];exact Bf.2 (by have:=pD.1 k j;omega));clear hz;go_wp2_with fail
     obtain⟨E,oJ,X3,bB⟩:=bx1 w2 #[.bool s,.slice p n c] 84;rw[oJ];have pL:=Kh X3;have J:=Kh bB;have pY:w2.heap.size<E.heap.size:=by rw[<-oJ];simp
     have oS:=Kh pY;clear X3 bB oJ a0 a1 pY;refine(Ht s p n c _ E (HZ.1.keep J.1).raw (by have:=HN.1;omega)).mono ?_;rintro e w4 ⟨rfl,bE⟩;have cD:=bt J bE;have qW:=Kh (bY.1.trans (cD.1.mono bY.1.size));have y0:=(pL.1.below_ bE oS.1).at_ 0 rfl;have y1:=(pL.1.below_ bE oS.1).at_ 1 rfl;clear bE;by_cases hz0:Bx C f k j=0
     ·have hW:Int.sign (Bx C f k j)=0:=by rw[hz0];rfl
      have oB:=Kh hz0;rw[hW];clear hz0 hW;go_wp2;go_roundw
      case rel=>exact⟨j+1,by omega,by go_num,by rw[Qf,if_pos oB.1];exact aD.1.keep cD.1,qW.1⟩
      case measure=>simp[intOf];omega
     ·have hW:(Int.sign (Bx C f k j) != 0)=true:=by
       have:Int.sign (Bx C f k j)≠0:=λe=>hz0 (Int.sign_eq_zero_iff_zero.1 e)
       simpa using this
      have oB:=Kh hz0;clear hz0;go_wp2_with fail
      refine(W0 s p n c _ w4 (HZ.1.keep cD.1) (by have:=HN.1;omega)).mono ?_;rintro e Z ⟨⟨s4,p4,n4,c4,t4,q4,m4,d4,rfl,qF⟩,pW⟩;have rJ:=Kh qF;have hZ:=bt cD pW;have nT:=Kh (bY.1.trans (hZ.1.mono bY.1.size));obtain⟨xs,pS,pU⟩:=aD.1.keep hZ.1;have nY:=Kh pS;have rN:=Kh pU;have oZ:=Kh (Dx (Sx (Bx C f k) j));clear qF pW pS pU y0 y1 hW;go_wp2_with (at_builtin;refine Bk NotU32 rfl (.tmp 41) (.tmp 46) _ 110 rfl underlying107 En rfl (by decide) wi.heap.size (Qf (Bx C f k) j).length u5 xs [.int .i64 (j:Int),.bool s4,.slice p4 n4 c4,.bool t4,.slice q4 m4 d4] rfl nY.1 rfl rfl (Vc _ _ _ _ _ _ _ _ _) (by have:=oZ.1;omega) (by have:=oZ.1;omega) nT.1.size (jA _ _ _ _ _ _ _ _ _) Vb ?_;intro v9 w9 hI hD pV;have rG:=Kh (OwnT.push nY.1 rN.1 j (Bx C f k j:Rat) rJ.1 hI hD);have qX:=Kh (nT.1.trans (At (Below.refl _ _) nY.1.1 hD (nL _) nT.1.size));clear hI hD pV)
      go_roundw
      case rel=>exact⟨j+1,by omega,by go_num,by rw[Qf,if_neg oB.1];exact rG.1,qX.1⟩
      case measure=>simp[intOf];omega
    ·obtain rfl:C=j:=by omega
     go_wp2;obtain⟨L,hL⟩:∃L,elim C (Bx C f) k=L:=⟨_,rfl⟩
     have HL:=Kh hL;have gL:=Kh (show Eli.Good C 16777216 L from hL▸nX.1 k);rw[hL]at aN;clear hL;go_loopw [5] (λv E=>∃(m t:Nat) (r:List (Nat×Rat)),m<=t/\t<=C/\Ev L m (Qf (Bx C f k) C)=r/\RowOk C L (Bx C f k) t r/\OwnT r E wi.heap.size v/\Below wi.heap.size wi E) (λv E=>lG C E v)
     case atStart=>exact⟨0,0,_,nL _,Nat.zero_le _,rfl,RowOk.first C L _ (Dt C f k),aD.1,bY.1⟩
     case round=>
      obtain⟨m,t0,r,hm,ht,hr,aX,U,bB⟩:=hrel;obtain⟨E,rfl⟩:∃E:World,E=wr:=⟨_,rfl⟩
      have J:=Kh bB;have bC:=Kh hr;have rH:=Kh aX;have HM:=Kh (And.intro hm ht);clear bB hr aD bY hm ht;cases r with
      | nil=>
       rcases U.row with⟨_,rfl⟩ |⟨g,cap,rfl,_,_,_,_,_⟩
       ·have HE:=Kh (show elim C (Bx C f) (k+1)=L by
         rw[elim,HL.1,Gn (by rw[bC.1];rfl) C (nM HM.1.1 HM.1.2),bC.1];rfl)
        clear U aX;go_wp2;go_roundw
        case rel=>exact⟨k+1,by omega,by go_num,by rw[HE.1];exact(aN.1.keep (nL _) J.1).up J.1.size,bA.1.trans (J.1.mono (gP.1▸bA.1.size))⟩
        case measure=>simp[intOf];omega
       ·have HE:=Kh (show elim C (Bx C f) (k+1)=L by
         rw[elim,HL.1,Gn (by rw[bC.1];rfl) C (nM HM.1.1 HM.1.2),bC.1];rfl)
        clear U aX;go_wp2;go_roundw
        case rel=>exact⟨k+1,by omega,by go_num,by rw[HE.1];exact(aN.1.keep (nL _) J.1).up J.1.size,bA.1.trans (J.1.mono (gP.1▸bA.1.size))⟩
        case measure=>simp[intOf];omega
      | cons x r=>
       have aD:=Kh U;rcases U.row with⟨he,_⟩ |⟨g,cap,rfl,pZ,sE,sF,eT,oI⟩
       ·cases he
       have pJ:=Kh oI;obtain⟨a0,s,p,n,c,t,q,m1,d,a1,a2,a3,a4,hq⟩:=oI.val 0 x rfl;rw[Nat.zero_mul]at a0 a1 a2 a3 a4;rw[Nat.zero_add]at a1 a2 a3 a4;have pC:=Kh (show Qs E s p n c t q m1 d x.2 from hq);have hO:x.1<C:=aX.1.2.1;have pK:=Kh aX.1.2.2.1;have hU:=Kh (aX.size gL.1 (pD.1 k)).1;have pH:=Kh ((aN.1.keep (nL _) J.1).up J.1.size);obtain⟨lv,l0,eX,hE⟩:=pH.1.val x.1 hO;have pI:=Kh eX;have oY:=Kh (show(x :: r).length<=72 from nM (Dx aX.1) (by omega));rw[List.length_cons]at pZ ⊢;have uD:(x.1:Int)<(C:Int):=by omega
       have sX:(0:Int)<((r.length:Int)+1):=by omega
       have uA:(((r.length:Nat):Int)+1==0)=false:=by simp;omega
       have sA:G<E.heap.size:=pH.1.stk.1;have oU:=Kh (And.intro pZ sE);clear U oI hq eX;by_cases hL0:L x.1=[]
       ·obtain rfl:=hE hL0
        have rD:=Kh hL0;clear hL0 hE aX;go_wp2_with fail
        have mE:=Kh (show Ev L C (Qf (Bx C f k) C)=x :: r by rw[Gn (by rw[bC.1];exact Ik rD.1) C (nM HM.1.1 HM.1.2),bC.1]);have HE:=Kh (show elim C (Bx C f) (k+1)=λj=>if j=x.1 then scl (x :: r)else L j by rw[elim,HL.1,mE.1];rfl);have rA:=Kh (gT pK.1);have pB:=Kh (show hq x.2<=80 from nM (hU.1 x (List.mem_cons_self ..)) gN.1);have aK:=Kh (show ∀M,Below E.heap.size E M->(M.cell? ⟨g,1,none⟩=some (.bool s)/\M.cell? ⟨g,2,none⟩=some (.slice p n c)/\M.cell? ⟨g,3,none⟩=some (.bool t)/\M.cell? ⟨g,4,none⟩=some (.slice q m1 d))from λM I=>⟨Ad I a1,Ad I a2,Ad I a3,Ad I a4⟩);clear HM bC mE a0 a1 a2 a3 a4 l0;go_cut [8,9]from 78 to 86 (λv8 v9 wd=>∃Rv s4 p4 n4 c4 t4 q4 m4 d4,v8=.pointer (some ⟨Rv,0,none⟩)/\wd.cell? ⟨Rv,0,none⟩=some (.bool s4)/\wd.cell? ⟨Rv,1,none⟩=some (.slice p4 n4 c4)/\wd.cell? ⟨Rv,2,none⟩=some (.bool t4)/\wd.cell? ⟨Rv,3,none⟩=some (.slice q4 m4 d4)/\Qs wd s4 p4 n4 c4 t4 q4 m4 d4 (1 / x.2)/\Below E.heap.size E wd/\E.heap.size<=Rv)
        case first=>
         go_region_held3 (λM=>M.cell? ⟨g,1,none⟩=some (.bool s)/\M.cell? ⟨g,2,none⟩=some (.slice p n c)/\M.cell? ⟨g,3,none⟩=some (.bool t)/\M.cell? ⟨g,4,none⟩=some (.slice q m1 d))
          (first|exact aK.1 _ (by first|exact(Below.refl _ E).drew|exact Below.refl _ E|exact((Below.refl _ E).drew).alloc (nL _) _|exact(Below.refl _ E).alloc (nL _) _|exact((Below.refl _ E).alloc (nL _) _).drew)|with_reducible exact aK.1 _ V|exact aK.1 _ (V.alloc cB _)|with_reducible exact aK.1 _ (Au V sB.1 _ _ _ _)|with_reducible exact aK.1 _ (Au V (nL _) _ _ _ _)|with_reducible exact aK.1 _ (Au (V.alloc cB _) cB _ _ _ _) |(exfalso;assumption))
          (first
           |(go_at_call 49;refine(Du 1 _ (by omega) (by omega)).mono ?_;rintro e w4 ⟨⟨s3,p3,n3,c3,t3,q3,m3,d3,rfl,qJ⟩,eG⟩;have O:Below E.heap.size E w4:=Below.trans (show Below E.heap.size E _ from(by first|exact(Below.refl _ E).drew|exact Below.refl _ E|exact((Below.refl _ E).drew).alloc (nL _) _|exact(Below.refl _ E).alloc (nL _) _|exact((Below.refl _ E).alloc (nL _) _).drew)) (Below.mono eG (Below.size (show Below E.heap.size E _ from(by first|exact(Below.refl _ E).drew|exact Below.refl _ E|exact((Below.refl _ E).drew).alloc (nL _) _|exact(Below.refl _ E).alloc (nL _) _|exact((Below.refl _ E).alloc (nL _) _).drew))));have V:=O;have cB:=O.size;(first|have fa:=Kd (W:=E.drew) E.heap.size rfl eG|have fa:=Kd (W:=E) E.heap.size rfl eG|skip))
           |(go_at_call 96;refine(bO s3 p3 n3 c3 t3 q3 m3 d3 1 s p n c t q m1 d x.2 _ (by first|exact qJ|exact qJ.keep ((Below.refl _ _).alloc (nL _) _)) (pC.1.keep (show Below E.heap.size E _ from(by first|exact O|exact O.alloc O.size _))) (by rw[Xq];omega) (by have:=pB.1;omega) pK.1).mono ?_;rintro e Z ⟨⟨s4,p4,n4,c4,t4,q4,m4,d4,rfl,qK⟩,bB⟩;have eP:Below E.heap.size E Z:=Below.trans (show Below E.heap.size E _ from(by first|exact O|exact O.alloc O.size _)) (Below.mono bB (Below.size (show Below E.heap.size E _ from(by first|exact O|exact O.alloc O.size _))));have V:=eP;have cB:=eP.size;(first|have fa:=It (by first|exact bB) fa|have fa:=Kd w4.heap.size rfl bB|skip);have sB:=Kh (show E.heap.size<=w4.heap.size from O.size)))
         all_goals go_wp2
         all_goals go_meet
         all_goals first
          | exact⟨Z.heap.size,s4,p4,n4,c4,t4,q4,m4,d4,rfl,(Blk.new Z 86 #[.bool s4,.slice p4 n4 c4,.bool t4,.slice q4 m4 d4]).at_ 0 rfl,(Blk.new Z 86 #[.bool s4,.slice p4 n4 c4,.bool t4,.slice q4 m4 d4]).at_ 1 rfl,(Blk.new Z 86 #[.bool s4,.slice p4 n4 c4,.bool t4,.slice q4 m4 d4]).at_ 2 rfl,(Blk.new Z 86 #[.bool s4,.slice p4 n4 c4,.bool t4,.slice q4 m4 d4]).at_ 3 rfl,qK.keep ((Below.refl _ _).alloc (nL _) _),eP.alloc eP.size _,eP.size⟩
          |(obtain⟨E0,E1,E2,E3,sI⟩:=Cc fa.2.2.2.2.2.2.2.2 qK rfl;exact⟨_,s4,p4,n4,c4,t4,q4,m4,d4,rfl,E0,E1,E2,E3,sI,Au eP (by first|exact nL _|exact O.size) _ _ _ _,by first|exact nL _|exact O.size⟩)
        case rest=>
         obtain⟨Rv,s4,p4,n4,c4,t4,q4,m4,d4,rfl,e0,e1,e2,e3,hz,oE,sC⟩:=hcut;obtain⟨wd,rfl⟩:∃wd:World,wd=wc:=⟨_,rfl⟩
         have rO:=Kh hz;have nU:=Kh oE;have dY:=Kh (show Rv≠g by omega);have hS:=Kh (And.intro e0 (And.intro e1 (And.intro e2 e3)));have nA:=Kh (show TRow (Ek (1 / x.2) 0 (x :: r)) wd g by rw[Rr];exact pJ.1.keep oE);have rF:=Kh (λy (hy:y∈x :: r)=>show hq y.2<=80 from nM (hU.1 y hy) gN.1);clear hz oE sC e0 e1 e2 e3 aK pJ;go_wp2;go_loopw [89] (λii Z=>∃j:Nat,j<=(x :: r).length/\ii=.int .i64 j/\TRow (Ek (1 / x.2) j (x :: r)) Z g/\wd.grownBy Z (some g)/\I32 wd Z) (λii _=>r.length+1 - (intOf ii).toNat)
         case atStart=>exact⟨0,Nat.zero_le _,rfl,nA.1,Ag g (Below.refl _ _),I32.refl _⟩
         case round=>
          obtain⟨j,hj,rfl,nD,qC,pR⟩:=hrel;obtain⟨Z,rfl⟩:∃Z:World,Z=wr:=⟨_,rfl⟩
          have cF:=Kh nD;have dE:=Kh qC;have nS:=Kh pR;clear nD qC pR nA;by_cases hjr:j<(x :: r).length
          ·obtain⟨y,hy⟩:∃y,(x :: r)[j]?=some y:=⟨_,List.getElem?_eq_getElem hjr⟩
           have sJ:y∈x :: r:=List.mem_of_getElem? hy;obtain⟨_,s',p',n',c',t',q',m',d',b1,b2,b3,b4,qG⟩:=cF.1.elem hy;have rK:=Kh (show Qs Z s' p' n' c' t' q' m' d' y.2 from qG);have z0:=dE.1.cell hS.1.1 (λe=>by injection e with e;exact dY.1 e);have z1:=dE.1.cell hS.1.2.1 (λe=>by injection e with e;exact dY.1 e);have z2:=dE.1.cell hS.1.2.2.1 (λe=>by injection e with e;exact dY.1 e);have z3:=dE.1.cell hS.1.2.2.2 (λe=>by injection e with e;exact dY.1 e);have rE:=Kh (λM (I:Below Z.heap.size Z M)=>Co s4 p4 n4 c4 t4 q4 m4 d4 (1 / x.2) s' p' n' c' t' q' m' d' y.2 M ((rO.1.i32 nS.1).keep I) (rK.1.keep I) (by have:=rA.1;have:=pB.1;omega) (by have:=rF.1 y sJ;omega));have hJ:=cF.1;have uC:(Ek (1 / x.2) j (x :: r)).length=r.length+1:=by rw[Hk];rfl
           have qE:j<r.length+1:=hjr;have tZ:(j:Int)<(r.length:Int)+1:=by omega
           have uB:g≠Rv:=λe=>dY.1 e.symm
           have tA:=dY.1;clear qG;go_upto_region 19 with(fail)
           refine Lg (λW=>W.cell? ⟨Rv,0,none⟩=some (.bool s4)/\W.cell? ⟨Rv,1,none⟩=some (.slice p4 n4 c4)/\W.cell? ⟨Rv,2,none⟩=some (.bool t4)/\W.cell? ⟨Rv,3,none⟩=some (.slice q4 m4 d4)/\W.cell? ⟨g,j*5+1,none⟩=some (.bool s')/\W.frozen? ⟨g,j*5+1,none⟩=false/\W.cell? ⟨g,j*5+2,none⟩=some (.slice p' n' c')/\W.frozen? ⟨g,j*5+2,none⟩=false/\W.cell? ⟨g,j*5+3,none⟩=some (.bool t')/\W.frozen? ⟨g,j*5+3,none⟩=false/\W.cell? ⟨g,j*5+4,none⟩=some (.slice q' m' d')/\W.frozen? ⟨g,j*5+4,none⟩=false) (λW I=>⟨Av I z0,Av I z1,Av I z2,Av I z3,Av I b1,Ab I (by rw[b1];rfl) (hJ.free _ (by omega)),Av I b2,Ab I (by rw[b2];rfl) (hJ.free _ (by omega)),Av I b3,Ab I (by rw[b3];rfl) (hJ.free _ (by omega)),Av I b4,Ab I (by rw[b4];rfl) (hJ.free _ (by omega))⟩) (λrL hHeld0=>?_);clear z0 z1 z2 z3 b1 b2 b3 b4 hJ;refine Ap 0 ?_;refine Ap 1 ?_;refine Ap 2 ?_;refine Ap 3 ?_;refine Ap 4 ?_;refine Ap 5 ?_;refine Ap 6 ?_;refine Ap 7 ?_;refine Hq 8 rfl (λK hK=>?_);focus(go_simp;refine(rE.1 _ (Below.refl _ Z).drew).mono ?_;rintro e w6 ⟨⟨s6,p6,n6,c6,t6,q6,m6,d6,rfl,qL⟩,pX⟩;have hQ:=Kh ((Below.refl _ Z).drew.trans pX:Below Z.heap.size Z w6);have oH:=cF.1.keep hQ.1;have pA:=Kh (oH.scl hy qL);have qZ:=Kh (show ∀v0 v1 v2 v3,wd.grownBy ((((w6.setCell ⟨g,j*5+1,none⟩ v0).setCell ⟨g,j*5+2,none⟩ v1).setCell ⟨g,j*5+3,none⟩ v2).setCell ⟨g,j*5+4,none⟩ v3) (some g)from λ_ _ _ _=>Vk dE.1 hQ.1);have H6:=Kh ((nS.1.trans (I32.below hQ.1)).trans (I32.putT (k:=j) oH.stk s6 t6 p6 q6 n6 c6 m6 d6).2);clear qL pX oH;(first|with_reducible refine hK.out _ _ ?_ (λhHeld1=>?_) |(go_wp2_with fail;with_reducible refine hK.out _ _ ?_ (λhHeld1=>?_))))
           focus((try dsimp only);exact rL.1 _ hQ.1)
           focus(clear hK K;(try simp only[Act.put,Bn,Bp,Bo]))
           refine Ap 9 ?_;refine Ap 10 ?_;refine Le 11 rfl (λK hK=>?_);go_simp
           refine hK.out _ _ ?_;clear hK K
           (try simp only[Act.put,Bn,Bp,Bo])
           all_goals go_wp2
           all_goals go_roundw
           all_goals first
            | exact⟨j+1,qE,by go_num,pA.1,qZ.1 _ _ _ _,H6.1⟩
            |(simp[intOf];omega)
          ·obtain rfl:(x :: r).length=j:=by omega
           have mA:=Kh (show TRow (scl (x :: r)) Z g by
            have h:=cF.1;rw[Vj]at h;exact h)
           have f0:=(mA.1.val 0 (x.1,1 / x.2*x.2) rfl).1;rw[Nat.zero_mul]at f0;have nV:=Kh (show Below wi.heap.size wi Z from Aq (J.1.trans (nU.1.mono J.1.size)) dE.1 (nM J.1.size nU.1.size) sF);have oQ:=Kh (show I32 wi Z from((I32.below (J.1.trans (nU.1.mono J.1.size)))).trans nS.1);have nZ:=Kh ((aN.1.next oQ.1 nV.1 aN.1.stk.1 (nL _)).up nV.1.size);obtain⟨v5,l5,_,_⟩:=nZ.1.val x.1 hO;have uE:=nZ.1.free x.1 hO;have qH:(scl (x :: r)).length=r.length+1:=by rw[scl,List.length_map];rfl
           have oG:=nZ.1.put (l:=scl (x :: r)) hO (by rw[scl];intro e;cases e) (mA.1.tl (cap:=cap) (by rw[scl,List.length_map];exact oU.1.1) oU.1.2);rw[qH]at oG;have rI:=Kh oG;clear oG qH;go_wp2;go_roundw
           case rel=>exact⟨k+1,by omega,by go_num,by rw[HE.1];exact rI.1.up (Nat.le_of_eq (by simp)),(bA.1.trans (nV.1.mono (gP.1▸bA.1.size))).setCell (p:=⟨G,x.1,none⟩) (nL _) _⟩
           case measure=>simp[intOf];omega
       ·have pT:=gL.1.head x.1
        obtain⟨b,I⟩:=pT.resolve_left hL0;have hT:=Kh (aX.step gL.1 hL0);have eX:=pI.1;rw[I]at eX;obtain⟨gl,ol,cl,rfl,tW,_,_,_,_⟩:=eX.cons;clear eX hE aX hL0 pT;go_wp2_with fail
        have pF:=Kh (λW (I:Below E.heap.size E W)=>(aD.1.tl.keep (nL _) I).up I.size);have pG:=Kh (λW (I:Below E.heap.size E W)=>(pI.1.keep (nL _) I).up I.size);have mD:=Kh (show Sml (top C 16777216) x.2 (x :: r) (L x.1)from⟨hU.1 x (List.mem_cons_self ..),hU.1,gL.1.size x.1⟩);have oX:=Kh (show(L x.1).length<=72 from nM (Dx (gL.1.ord x.1)) (by omega));have gI:=Kh (λW (I:Below E.heap.size E W)=>bK _ _ (x :: r) (L x.1) s p n c t q m1 d x.2 (top C 16777216) W (pF.1 W I) (pG.1 W I) (pC.1.keep I) mD.1 (by have:=gN.1;omega) (by have:=oX.1;have:=oY.1;omega));rw[I]at gI;have sW:=eT;clear pF pG mD oX;have aK:=Kh (show ∀M,Below E.heap.size E M->(M.cell? ⟨g,0,none⟩=some (.int .i64 (x.1:Int))/\M.cell? ⟨g,1,none⟩=some (.bool s)/\M.cell? ⟨g,2,none⟩=some (.slice p n c)/\M.cell? ⟨g,3,none⟩=some (.bool t)/\M.cell? ⟨g,4,none⟩=some (.slice q m1 d)/\M.cell? ⟨G,x.1,none⟩=some (.slice (some ⟨gl,ol,none⟩) (b.length+1) (cl+1)))from λM I=>⟨(I.cell (p:=⟨g,0,none⟩) (eT)).trans a0,(I.cell (p:=⟨g,1,none⟩) (eT)).trans a1,(I.cell (p:=⟨g,2,none⟩) (eT)).trans a2,(I.cell (p:=⟨g,3,none⟩) (eT)).trans a3,(I.cell (p:=⟨g,4,none⟩) (eT)).trans a4,(I.cell (p:=⟨G,x.1,none⟩) (sA)).trans l0⟩);have V:Below E.heap.size E E.drew:=(Below.refl _ E).drew;have cB:E.heap.size<=E.heap.size:=nL _;have sD:E.drew.cell? ⟨g,0,none⟩=some (.int .i64 (x.1:Int))/\E.drew.cell? ⟨g,1,none⟩=some (.bool s)/\E.drew.cell? ⟨g,2,none⟩=some (.slice p n c)/\E.drew.cell? ⟨g,3,none⟩=some (.bool t)/\E.drew.cell? ⟨g,4,none⟩=some (.slice q m1 d)/\E.drew.cell? ⟨G,x.1,none⟩=some (.slice (some ⟨gl,ol,none⟩) (b.length+1) (cl+1)):=aK.1 _ V
        go_region_held3 (λM=>M.cell? ⟨g,0,none⟩=some (.int .i64 (x.1:Int))/\M.cell? ⟨g,1,none⟩=some (.bool s)/\M.cell? ⟨g,2,none⟩=some (.slice p n c)/\M.cell? ⟨g,3,none⟩=some (.bool t)/\M.cell? ⟨g,4,none⟩=some (.slice q m1 d)/\M.cell? ⟨G,x.1,none⟩=some (.slice (some ⟨gl,ol,none⟩) (b.length+1) (cl+1)))
         (first|with_reducible exact sD|with_reducible exact aK.1 _ V|exact aK.1 _ (V.alloc cB _))
         (first
          |(go_at_call 95;refine(gI.1 _ (by first|exact(Below.refl _ E).drew|exact Below.refl _ E)).mono ?_;rintro e w4 ⟨⟨v',rfl,hH⟩,bE⟩;have iL:=Kh (show Below E.heap.size E w4 from(by first|exact(Below.refl _ E).drew.trans bE|exact bE));have mC:=Kh (hH.base (B':=wi.heap.size) (nM J.1.size (Nat.le_succ _)));clear hH bE;have V:=iL.1;have cB:E.heap.size<=w4.heap.size:=V.size))
        all_goals go_wp2
        all_goals go_roundw
        all_goals first
         | exact⟨m+1,x.1+1,Ro L (x :: r),by have:=HM.1.1;have:=rH.1.1.1;omega,by omega,by rw[Ev,bC.1],hT.1.1,by rw[hT.1.2.1,I];exact mC.1,J.1.trans (iL.1.mono J.1.size)⟩
         |(have h1:=Pk aD.1 (C:=C);have h2:=Yk (C:=C) (t:=x.1) (r:=Ro L (x :: r)) (by rw[hT.1.2.1,I];exact mC.1) hT.1.1.1 hO;exact Nat.lt_of_lt_of_eq h2 h1.symm)
  ·obtain rfl:k=R:=by omega
   go_wp2;go_ret;exact⟨⟨G,rfl,oW.1,aN.1⟩,qV.1.trans (bA.1.mono oW.1)⟩
end
end Go.Proofs.YtenlbhlllgppmaaGreatDoor
