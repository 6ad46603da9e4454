/- The law AtkinlehnerProducts, walked: it returns true. -/
import Derived.Test.YtenlbhlllgppmaaGreatDoorB36
import Derived.Lib.SmallJoins
set_option linter.unusedSimpArgs false
set_option maxRecDepth 100000
set_option maxHeartbeats 8000000
namespace Go.Proofs.YtenlbhlllgppmaaGreatDoor
section
open Go.RowKit Eli Tryz
theorem bX (N k D q r:Int) (w:World) (hT:Tab w) (hqq:-9223372036854775808<=q) (zH:q<=9223372036854775807) (hrr:-9223372036854775808<=r) (zI:r<=9223372036854775807):
  Calls prog 8 #[.agg #[.int .i64 N,.int .i64 k,.int .i64 D],.int .i64 q,.int .i64 r] w λe w'=>e=.returned (.bool true)/\Below w.heap.size w w':=by
 obtain⟨lb,hla,hls⟩:=Va N k D;have L2:=Kh hla;have zO:=Kh hls;have HT:=Kh hT;have wR:=Kh (And.intro (And.intro hqq zH) (And.intro hrr zI));clear hT hqq zH hrr zI hla hls;go_enter func8,ntmps8
 go_wp2_with fail
 obtain⟨w0,hw0,XS,yJ⟩:=bx1 w #[.int .i64 N,.int .i64 k,.int .i64 D] 23;rw[hw0];refine(Ut w0 (HT.1.below yJ)).mono ?_;rintro e wa ⟨rfl,zZ⟩;obtain⟨gs,hgs⟩:∃x,w.heap.size=x:=⟨_,rfl⟩
 have zT:=XS.below_ zZ XS.lt;rw[hgs]at zT ⊢;have gA:=Kh zT;have vS:=Kh (yJ.trans (zZ.mono yJ.size));clear hw0 XS yJ zZ hgs zT;have uZ:=gA.1.at_ 0 rfl;have vA:=gA.1.at_ 1 rfl;have vB:=gA.1.at_ 2 rfl;go_wp2_with fail
 refine(L2.1 wa).mono ?_;rintro e wb ⟨rfl,A0⟩;clear uZ vA vB;have U:=Kh (bk gA A0);have gU:=bt vS A0;clear gA vS A0;clear L2;cases lb with
 | true=>
  go_wp2;go_ret;exact⟨rfl,gU.1⟩
 | false=>
  have uZ:=U.1.at_ 0 rfl;have vA:=U.1.at_ 1 rfl;have vB:=U.1.at_ 2 rfl;by_cases hck:Pl.check N k D=0
  case neg=>
   have HOB:=Kh (λW=>Jg N k D q r W hck);clear hck zO;go_wp2_with fail
   refine(HOB.1 wb).mono ?_;rintro e wc1 ⟨rfl,sA⟩;clear uZ vA vB;have H4:=Kh (bk U sA);have nX:=bt gU sA;clear U gU sA;go_wp2;go_ret;exact⟨rfl,(nX.1.alloc nX.1.size _).alloc (nS nX.1.size (by simp)) _⟩
  have nC:Pl.check N k D=0:=hck;obtain⟨h1,h2,h3,h4,_,_⟩:=Av nC;obtain⟨n,en⟩:∃n:Nat,(n:Int)=N:=⟨N.toNat,by omega⟩
  obtain⟨wt,ek⟩:∃wt:Nat,(wt:Int)+2=k:=⟨(k - 2).toNat,by omega⟩
  have hC:=zO.1 (by simp) n wt en.symm ek.symm nC;rw[<-en,<-ek]at nC;have hwt:wt<=22:=by omega
  have wY:0<n:=by omega
  have hn1:n<=72:=by
   have h5:=Qi wY;have h6:1*(pts n (n*n)).length<=(wt+1)*(pts n (n*n)).length:=Nat.mul_le_mul_right _ (by omega);unfold cntF at hC;omega
  have Y5:(wt+1)*n<=72:=by
   have h6:(wt+1)*n<=(wt+1)*(pts n (n*n)).length:=Nat.mul_le_mul_left _ (Qi wY);unfold cntF at hC;omega
  obtain⟨γ,G4⟩:=Py (n:=n) wY;have yM:=Pg n wt D q r wb (HT.1.below gU.1) nC hC G4 wR.1.1.1 wR.1.1.2 wR.1.2.1 wR.1.2.2;rw[en,ek]at yM;have yK:Crd n wt D _ _:=Rt (n:=n) (wt:=wt) (D:=D) (by omega);have wX:∀f,f∈frs (C9 n wt D) (cntF n wt)->f<cntF n wt:=yK.low
  obtain⟨F,hF⟩:∃F,frs (C9 n wt D) (cntF n wt)=F:=⟨_,rfl⟩
  obtain⟨X,hX⟩:∃X,B5 (C9 n wt D) (cntF n wt) (cntF n wt)=X:=⟨_,rfl⟩
  obtain⟨C,zX⟩:∃C,cntF n wt=C:=⟨_,rfl⟩
  rw[hF,hX,zX]at yM;rw[hF,hX]at yK;rw[hF,zX]at wX;have R1:=Kh yM;have xP:=Kh yK;have M1:=Kh wX;have xQ:=Kh G4;have oH:=Kh (And.intro wY (And.intro hn1 hwt));have HCT:=Kh Y5;have HEK:=Kh (And.intro en ek);have xO:=Kh nC;clear zO hck nC h1 h2 h3 h4 en ek hC Y5 hwt wY hn1 G4 yM yK wX hF hX zX;go_wp2_with fail
  refine R1.1.mono ?_;rintro e w2 ⟨⟨M,a1,b1,v1,s1,c1,e1,a2,b2,v2,s2,c2,e2,rfl,hmA,E2,F3⟩,sA⟩;clear R1;clear uZ vA vB;have qS:=Kh (bk U sA);have hM:=bt gU sA;clear U gU sA;have rU:=Kh hmA;clear hmA;by_cases hok:e1=0/\e2=0
  case neg=>
   rw[decide_eq_false hok];clear hok E2 F3;go_wp2;go_ret;exact⟨rfl,(hM.1.alloc hM.1.size _).alloc (nS hM.1.size (by simp)) _⟩
  rw[decide_eq_true hok];obtain⟨m,A,B,C0,E,hD,hqm,rZ,ra,rb,rc,B2,E0⟩:=E2.2 hok.1;obtain⟨m',A',B',C0',E',_,hrm,uX,ra',rb',G7,xA,xC⟩:=F3.2 hok.2;clear E2 F3 hok;subst hD;have vC:=Kh (And.intro rZ uX);have oA:=Kh (And.intro hqm hrm);have uU:=Kh rU.1.rel;obtain⟨R,hR⟩:∃R,F.length=R:=⟨_,rfl⟩
  obtain⟨RL,wV⟩:∃x,R*R=x:=⟨_,rfl⟩
  obtain⟨RM,wW⟩:∃RM,wM n wt 1 F X γ A B C0 E=RM:=⟨_,rfl⟩
  obtain⟨V3,uW⟩:∃RM,wM n wt 1 F X γ A' B' C0' E'=RM:=⟨_,rfl⟩
  rw[wW,hR,wV]at B2;rw[wW,hR]at E0;rw[uW,hR,wV]at xA;rw[uW,hR]at xC;rw[hR]at ra rb ra' rb';rw[hR,wV]at rc G7;subst ra rb ra' rb';have xF:=rc.symm;have rc2:=G7.symm;clear rc G7;subst xF;subst rc2
  have hpr:∀A3 B3 C3 E3,ALm n (m*m') A3 B3 C3 E3->∀i kk,i<R->kk<R->Fe (RM i) V3 R kk=wM n wt 1 F X γ A3 B3 C3 E3 i kk:=λA3 B3 C3 E3 h3 i kk hi hk=>by
   rw[<-wW,<-uW,<-hR];exact iZ xO.1 xP.1 uU.1 xQ.1 vC.1.1 vC.1.2 h3 (Ev oH.1.1) (by rw[hR];exact hk)
  have hsq:∀i kk,i<R->kk<R->Fe (RM i) RM R kk=((((m:Int) ^ wt:Int)):Rat)*(if kk=i then 1 else 0):=λi kk hi hk=>by
   rw[<-wW,<-hR];exact aR xO.1 xP.1 uU.1 xQ.1 vC.1.1 (by rw[hR];exact hi) (by rw[hR];exact hk)
  have hon:∀A3 B3 C3 E3,ALm n 1 A3 B3 C3 E3->∀i kk,i<R->kk<R->wM n wt 1 F X γ A3 B3 C3 E3 i kk=if kk=i then 1 else 0:=λA3 B3 C3 E3 h3 i kk hi hk=>
   lI xO.1 xP.1 uU.1 xQ.1 h3 (by rw[hR];exact hi) (by rw[hR];exact hk)
  have zP:=Kh hpr;have HSQ:=Kh hsq;have P9:=Kh hon;have HEV:=Kh (eU xO.1);have S1:=Kh hR;have hB:=Kh wV;have zQ:=Kh E0;have HSU:=Kh xC;have tR:=Kh B2;have uE:=Kh xA
  have P1:=Kh (show m<=n/\0<m by
   have h1:=rZ.dv;have h3:m*1<=m*(n / m):=Nat.mul_le_mul_left _ rZ.hn;exact⟨by omega,rZ.hq⟩)
  have oG:=Kh (show m<=72/\m'<=72 by
   have h1:=rZ.dv;have h2:=uX.dv;have h3:m*1<=m*(n / m):=Nat.mul_le_mul_left _ rZ.hn;have h4:m'*1<=m'*(n / m'):=Nat.mul_le_mul_left _ uX.hn;have h5:=oH.1.2.1;omega)
  have xN:=Kh (λW (hb:Below w.heap.size w W) (hm:ModR W M n wt 1 F C X) z hz1 hz2=>Nn (γ:=γ) z W (HT.1.below hb) hm M1.1 xQ.1 hz1 hz2);rw[hR]at xN;clear rZ uX hqm hrm hR wW uW wV E0 xC B2 xA hpr hsq hon xP uU M1 wR;go_upto_region 6 with(fail)
  obtain⟨w3,hw3⟩:∃x,(w2.alloc (.cells #[.int .i64 R,.int .i64 R,.slice v1 RL c1] 32)).alloc (.cells #[.int .i64 R,.int .i64 R,.slice v2 RL c2] 32)=x:=⟨_,rfl⟩
  obtain⟨XM,XN,sB⟩:=Lx w2 #[.int .i64 R,.int .i64 R,.slice v1 RL c1] 32 #[.int .i64 R,.int .i64 R,.slice v2 RL c2] 32;rw[hw3]at XM XN sB ⊢;obtain⟨ga,Z0⟩:∃x,w2.heap.size=x:=⟨_,rfl⟩
  obtain⟨gb,hgb⟩:∃x,w2.heap.size+1=x:=⟨_,rfl⟩
  rw[hgb]at XN ⊢;rw[Z0]at XM ⊢;have yP:=Kh XM;have yQ:=Kh XN;clear hw3 XM XN Z0 hgb;have qT:=Kh (bk qS sB);have vU:=Kh (rU.1.keep sB);have tS:=Kh (tR.1.keep (λ_=>IsQ.solid _) sB);have uG:=Kh (uE.1.keep (λ_=>IsQ.solid _) sB);have vD:=bt hM sB;clear qS rU tR uE hM sB;have oJ:=yP;have oY:=yQ;clear yP yQ;have hgc:=λW=>Em q r W (by have:=oA.1;have:=oG.1;omega) (by have:=oA.1;have:=oG.1;omega) (by have:=oA.1;have:=oG.1;omega) (by have:=oA.1;have:=oG.1;omega)
  have zN:=Kh hgc;obtain⟨G1,zY⟩:∃g,Int.gcd q r=g:=⟨_,rfl⟩
  rw[zY]at zN;have K2:=Kh zY;clear hgc zY;go_wp2_with fail
  refine(zN.1 w3).mono ?_;rintro e w4 ⟨rfl,nn,hw4⟩;have rM:Below w3.heap.size w3 w4:=Bm ⟨nn,hw4⟩;clear hw4 zN;have qU:=Kh (bk qT rM);have oK:=Kh (bk oJ rM);have oZ:=Kh (bk oY rM);have rV:=Kh (vU.1.keep rM);have tT:=Kh (tS.1.keep (λ_=>IsQ.solid _) rM);have uH:=Kh (uG.1.keep (λ_=>IsQ.solid _) rM);have nW:=bt vD rM;clear qT oJ oY vU tS uG vD rM;by_cases hg:G1=1
  case neg=>
   have hg1:((G1:Int) != 1)=true:=by rw[bne_iff_ne];omega
   clear hg;go_wp2;go_ret;exact⟨rfl,nW.1⟩
  subst hg
  have hmm:Nat.gcd m m'=1:=by
   have h1:=K2.1;rw[oA.1.1,oA.1.2]at h1;exact h1
  have HMM:=Kh hmm;clear hmm K2;obtain⟨mm,rO⟩:∃x,m*m'=x:=⟨_,rfl⟩
  have hmul:q*r=(mm:Int):=by rw[oA.1.1,oA.1.2,<-rO];push_cast;rfl
  have hmb:mm<=72*72:=by rw[<-rO];exact Nat.mul_le_mul oG.1.1 oG.1.2
  have hwr:IntKind.i64.wrap (mm:Int)=(mm:Int):=IntWalk.i64_in _ (by omega);have P8:=Kh (show Ke n (mm:Int)by rw[<-rO];exact Wl oH.1.1 vC.1.1.ok vC.1.2.ok HMM.1);rw[rO]at zP;have HBM:=Kh hmb;have P2:=Kh (xN.1 w4 nW.1 rV.1 (mm:Int) (by omega) (by omega));clear rO hmb;go_wp2_with fail
  refine P2.1.mono ?_;rintro e w5 ⟨⟨a3,b3,v3,s3,c3,e3,rfl,C1⟩,rN⟩;clear P2;clear hmul hwr;have qV:=Kh (bk qU rN);have oL:=Kh (bk oK rN);have pA:=Kh (bk oZ rN);have vV:=Kh (rV.1.keep rN);have tU:=Kh (tT.1.keep (λ_=>IsQ.solid _) rN);have uI:=Kh (uH.1.keep (λ_=>IsQ.solid _) rN);have vE:=bt nW rN;clear qU oK oZ rV tT uH nW rN;obtain rfl:=C1.1 rfl P8.1;obtain⟨m3,A3,B3,C3,E3,_,hq3m,yY,ra,rb,rc,A1,hs3⟩:=C1.2 rfl;obtain rfl:m3=mm:=by omega
  rw[hB.1]at A1 rc;subst ra rb;have xF:=rc.symm;clear rc;subst xF;have K1:=Kh (λi kk (hi:i<R) (hk:kk<R)=>zP.1 A3 B3 C3 E3 yY i kk hi hk);have nY:=Kh A1;have S2:=Kh hs3;clear C1 hq3m yY A1 hs3;obtain⟨RM3,yW⟩:∃RM,wM n wt 1 F X γ A3 B3 C3 E3=RM:=⟨_,rfl⟩
  rw[yW]at K1 nY S2;clear yW;clear P8 zP;go_upto_region 9 with(fail)
  obtain⟨w6,hw6⟩:∃x,w5.alloc (.cells #[.int .i64 R,.int .i64 R,.slice v3 RL c3] 32)=x:=⟨_,rfl⟩
  obtain⟨yA,gP⟩:=Gy w5 #[.int .i64 R,.int .i64 R,.slice v3 RL c3] 32;rw[hw6]at yA gP ⊢;obtain⟨gc,zA⟩:∃x,w5.heap.size=x:=⟨_,rfl⟩
  rw[zA]at yA ⊢;have yR:=Kh yA;clear hw6 yA zA;have qW:=Kh (bk qV gP);have oM:=Kh (bk oL gP);have pB:=Kh (bk pA gP);have rW:=Kh (vV.1.keep gP);have tV:=Kh (tU.1.keep (λ_=>IsQ.solid _) gP);have uJ:=Kh (uI.1.keep (λ_=>IsQ.solid _) gP);have sU:=Kh (nY.1.keep (λ_=>IsQ.solid _) gP);have rS:=bt vE gP;clear qV oL pA vV tU uI nY vE gP;have pO:=yR;clear yR;have P7:=Kh (xN.1 w6 rS.1 rW.1 1 (by decide) (by decide));go_wp2_with fail
  refine P7.1.mono ?_;rintro e w7 ⟨⟨a4,b4,v4,s4,c4,e4,rfl,C2⟩,gF⟩;clear P7;have qX:=Kh (bk qW gF);have oN:=Kh (bk oM gF);have pC:=Kh (bk pB gF);have pP:=Kh (bk pO gF);have vW:=Kh (rW.1.keep gF);have tW:=Kh (tV.1.keep (λ_=>IsQ.solid _) gF);have uK:=Kh (uJ.1.keep (λ_=>IsQ.solid _) gF);have sV:=Kh (sU.1.keep (λ_=>IsQ.solid _) gF);have vF:=bt rS gF;clear qW oM pB pO rW tV uJ sU rS gF;obtain rfl:=C2.1 rfl (Wm oH.1.1);obtain⟨m4,A4,B4,C4,E4,_,hq4m,yZ,ra,rb,rc,A2,hs4⟩:=C2.2 rfl;obtain rfl:m4=1:=by omega
  rw[hB.1]at A2 rc;subst ra rb;have xF:=rc.symm;clear rc;subst xF;have L1:=Kh (λi kk (hi:i<R) (hk:kk<R)=>P9.1 A4 B4 C4 E4 yZ i kk hi hk);have nZ:=Kh A2;have HSG:=Kh hs4;clear C2 hq4m yZ A2 hs4;obtain⟨RM4,yX⟩:∃RM,wM n wt 1 F X γ A4 B4 C4 E4=RM:=⟨_,rfl⟩
  rw[yX]at L1 nZ HSG;clear yX;clear P9 xN;go_upto_region 10 with(fail)
  obtain⟨w8,hw8⟩:∃x,w7.alloc (.cells #[.int .i64 R,.int .i64 R,.slice v4 RL c4] 32)=x:=⟨_,rfl⟩
  obtain⟨yB,bY⟩:=Gy w7 #[.int .i64 R,.int .i64 R,.slice v4 RL c4] 32;rw[hw8]at yB bY ⊢;obtain⟨gg,zB⟩:∃x,w7.heap.size=x:=⟨_,rfl⟩
  rw[zB]at yB ⊢;have yS:=Kh yB;clear hw8 yB zB;have qY:=Kh (bk qX bY);have cD:=Kh (bk oN bY);have cG:=Kh (bk pC bY);have pQ:=Kh (bk pP bY);have rX:=Kh (vW.1.keep bY);have oC:=Kh (tW.1.keep (λ_=>IsQ.solid _) bY);have oD:=Kh (uK.1.keep (λ_=>IsQ.solid _) bY);have sW:=Kh (sV.1.keep (λ_=>IsQ.solid _) bY);have tF:=Kh (nZ.1.keep (λ_=>IsQ.solid _) bY);have vG:=bt vF bY;clear qX oN pC pP vW tW uK sV nZ vF bY;have qB:=yS;clear yS;have cC:=Kh (show R<=72 by have:=rX.1.len;rw[S1.1]at this;exact this);have sC:=Ww R R R v1 v2 c1 c2 RM V3 w8 (by rw[hB.1];exact oC.1) (by rw[hB.1];exact oD.1) cC.1 cC.1 cC.1 (λi q hi hq=>zQ.1 i q hi hq) (λi q hi hq=>HSU.1 i q hi hq);rw[hB.1]at sC;have vT:=Kh sC;clear sC;have zU:=cD.1.at_ 0 rfl;have zV:=cD.1.at_ 1 rfl;have zW:=cD.1.at_ 2 rfl;have gb0:=cG.1.at_ 0 rfl;have gb1:=cG.1.at_ 1 rfl;have gb2:=cG.1.at_ 2 rfl;go_wp2_with fail
  refine vT.1.mono ?_;rintro e w9 ⟨⟨v5,c5,rfl,wZ⟩,V⟩;clear vT;clear zU zV zW gb0 gb1 gb2;have qZ:=Kh (bk qY V);have oO:=Kh (bk cD V);have pD:=Kh (bk cG V);have pR:=Kh (bk pQ V);have qC:=Kh (bk qB V);have vX:=Kh (rX.1.keep V);have tX:=Kh (oC.1.keep (λ_=>IsQ.solid _) V);have uL:=Kh (oD.1.keep (λ_=>IsQ.solid _) V);have sX:=Kh (sW.1.keep (λ_=>IsQ.solid _) V);have tG:=Kh (tF.1.keep (λ_=>IsQ.solid _) V);have vH:=bt vG V;clear qY cD cG pQ qB rX oC oD sW tF vG V;have sG:=Kh wZ;clear wZ;go_upto_region 11 with(fail)
  obtain⟨wA,hwA⟩:∃x,w9.alloc (.cells #[.int .i64 R,.int .i64 R,.slice v5 RL c5] 32)=x:=⟨_,rfl⟩
  obtain⟨yC,Y⟩:=Gy w9 #[.int .i64 R,.int .i64 R,.slice v5 RL c5] 32;rw[hwA]at yC Y ⊢;obtain⟨gab,zC⟩:∃x,w9.heap.size=x:=⟨_,rfl⟩
  rw[zC]at yC ⊢;have wT:=Kh yC;clear hwA yC zC;have rA:=Kh (bk qZ Y);have cF:=Kh (bk oO Y);have pE:=Kh (bk pD Y);have pS:=Kh (bk pR Y);have qD:=Kh (bk qC Y);have vY:=Kh (vX.1.keep Y);have hI:=Kh (tX.1.keep (λ_=>IsQ.solid _) Y);have uM:=Kh (uL.1.keep (λ_=>IsQ.solid _) Y);have sY:=Kh (sX.1.keep (λ_=>IsQ.solid _) Y);have tH:=Kh (tG.1.keep (λ_=>IsQ.solid _) Y);have sH:=Kh (sG.1.keep (λ_=>IsQ.solid _) Y);have vI:=bt vH Y;clear qZ oO pD pR qC vX tX uL sX tG sG vH Y;have hZ:=wT;clear wT;have sC:=Ww R R R v1 v1 c1 c1 RM RM wA (by rw[hB.1];exact hI.1) (by rw[hB.1];exact hI.1) cC.1 cC.1 cC.1 (λi q hi hq=>zQ.1 i q hi hq) (λi q hi hq=>zQ.1 i q hi hq);rw[hB.1]at sC;have vT:=Kh sC;clear sC;have zU:=cF.1.at_ 0 rfl;have zV:=cF.1.at_ 1 rfl;have zW:=cF.1.at_ 2 rfl;go_wp2_with fail
  refine vT.1.mono ?_;rintro e wB ⟨⟨v6,c6,rfl,hq6⟩,gS⟩;clear vT;clear zU zV zW;have rB:=Kh (bk rA gS);have oP:=Kh (bk cF gS);have pF:=Kh (bk pE gS);have pT:=Kh (bk pS gS);have qE:=Kh (bk qD gS);have iL:=Kh (bk hZ gS);have vZ:=Kh (vY.1.keep gS);have tY:=Kh (hI.1.keep (λ_=>IsQ.solid _) gS);have uN:=Kh (uM.1.keep (λ_=>IsQ.solid _) gS);have sZ:=Kh (sY.1.keep (λ_=>IsQ.solid _) gS);have tI:=Kh (tH.1.keep (λ_=>IsQ.solid _) gS);have sI:=Kh (sH.1.keep (λ_=>IsQ.solid _) gS);have vJ:=bt vI gS;clear rA cF pE pS qD hZ vY hI uM sY tH sH vI gS;have sO:=Kh hq6;clear hq6;go_upto_region 12 with(fail)
  obtain⟨wC,hwC⟩:∃x,wB.alloc (.cells #[.int .i64 R,.int .i64 R,.slice v6 RL c6] 32)=x:=⟨_,rfl⟩
  obtain⟨yD,O⟩:=Gy wB #[.int .i64 R,.int .i64 R,.slice v6 RL c6] 32;rw[hwC]at yD O ⊢;obtain⟨gaa,zD⟩:∃x,wB.heap.size=x:=⟨_,rfl⟩
  rw[zD]at yD ⊢;have wS:=Kh yD;clear hwC yD zD;have rC:=Kh (bk rB O);have oQ:=Kh (bk oP O);have pG:=Kh (bk pF O);have pU:=Kh (bk pT O);have qF:=Kh (bk qE O);have mA:=Kh (bk iL O);have rY:=Kh (vZ.1.keep O);have tZ:=Kh (tY.1.keep (λ_=>IsQ.solid _) O);have uO:=Kh (uN.1.keep (λ_=>IsQ.solid _) O);have tA:=Kh (sZ.1.keep (λ_=>IsQ.solid _) O);have tJ:=Kh (tI.1.keep (λ_=>IsQ.solid _) O);have sJ:=Kh (sI.1.keep (λ_=>IsQ.solid _) O);have sP:=Kh (sO.1.keep (λ_=>IsQ.solid _) O);have vK:=bt vJ O;clear rB oP pF pT qE iL vZ tY uN sZ tI sI sO vJ O;have hP:=wS;clear wS;have zL:=Kh (Wr M wC.heap.size n ((wt:Int)+2) 1 F C X wC rY.1.mod);rw[S1.1]at zL;go_wp2_with fail
  refine zL.1.mono ?_;rintro e w' ⟨rfl,hw'⟩;obtain rfl:wC=w':=hw'.symm;clear hw' zL;go_wp2_with fail
  refine(O5 R wC (by have:=cC.1;omega)).mono ?_;rintro e wD ⟨⟨v7,c7,rfl,B0⟩,gL⟩;have rD:=Kh (bk rC gL);have oR:=Kh (bk oQ gL);have pH:=Kh (bk pG gL);have pV:=Kh (bk pU gL);have qG:=Kh (bk qF gL);have mB:=Kh (bk mA gL);have hQ:=Kh (bk hP gL);have wL:=Kh (rY.1.keep gL);have uA:=Kh (tZ.1.keep (λ_=>IsQ.solid _) gL);have uP:=Kh (uO.1.keep (λ_=>IsQ.solid _) gL);have tB:=Kh (tA.1.keep (λ_=>IsQ.solid _) gL);have tK:=Kh (tJ.1.keep (λ_=>IsQ.solid _) gL);have sK:=Kh (sJ.1.keep (λ_=>IsQ.solid _) gL);have sQ:=Kh (sP.1.keep (λ_=>IsQ.solid _) gL);have vL:=bt vK gL;clear rC oQ pG pU qF mA hP rY tZ uO tA tJ sJ sP vK gL;rw[hB.1]at B0 ⊢;have tO:=Kh B0;clear B0;go_upto_region 13 with(fail)
  obtain⟨wE,hwE⟩:∃x,wD.alloc (.cells #[.int .i64 R,.int .i64 R,.slice v7 RL c7] 32)=x:=⟨_,rfl⟩
  obtain⟨yE,J⟩:=Gy wD #[.int .i64 R,.int .i64 R,.slice v7 RL c7] 32;rw[hwE]at yE J ⊢;obtain⟨go,zE⟩:∃x,wD.heap.size=x:=⟨_,rfl⟩
  rw[zE]at yE ⊢;have yT:=Kh yE;clear hwE yE zE;have eP:=Kh (bk rD J);have oS:=Kh (bk oR J);have pI:=Kh (bk pH J);have pW:=Kh (bk pV J);have qH:=Kh (bk qG J);have mC:=Kh (bk mB J);have hS:=Kh (bk hQ J);have wN:=Kh (wL.1.keep J);have uB:=Kh (uA.1.keep (λ_=>IsQ.solid _) J);have uQ:=Kh (uP.1.keep (λ_=>IsQ.solid _) J);have tC:=Kh (tB.1.keep (λ_=>IsQ.solid _) J);have tL:=Kh (tK.1.keep (λ_=>IsQ.solid _) J);have sL:=Kh (sK.1.keep (λ_=>IsQ.solid _) J);have sR:=Kh (sQ.1.keep (λ_=>IsQ.solid _) J);have tP:=Kh (tO.1.keep (λ_=>IsQ.solid _) J);have vM:=bt vL J;clear rD oR pH pV qG mB hQ wL uA uP tB tK sK sQ tO vL J;have qM:=yT;clear yT;obtain⟨v,hv⟩:∃v,wt=2*v:=⟨wt / 2,by have:=HEV.1;omega⟩
  have HV:=Kh hv;clear hv;have zM:=Kh (Wu N k 1 m v wE (by rw[<-HEK.1.2,HV.1]) (by have:=oH.1;have:=HV.1;omega) (by have:=oG.1;omega) P1.1.2 (Nat.lt_of_le_of_lt (Nat.pow_le_pow_left P1.1.1 v) (dR n (by have:=oH.1;omega) v (by have:=oH.1;have:=HV.1;omega) (by have h:=HCT.1;rw[HV.1]at h;exact h))));have xB:q=(m:Int):=oA.1.1;rw[<-xB]at zM;have R2:=Kh xB;clear xB;have uZ:=eP.1.at_ 0 rfl;have vA:=eP.1.at_ 1 rfl;have vB:=eP.1.at_ 2 rfl;go_wp2_with fail
  refine zM.1.mono ?_;rintro e wF ⟨⟨s9,p9,n9,c9,t9,q9,m9,d9,rfl,B1⟩,cB⟩;clear zM;clear uZ vA vB;have rE:=Kh (bk eP cB);have oT:=Kh (bk oS cB);have pJ:=Kh (bk pI cB);have pX:=Kh (bk pW cB);have qI:=Kh (bk qH cB);have mD:=Kh (bk mC cB);have hU:=Kh (bk hS cB);have qN:=Kh (bk qM cB);have wO:=Kh (wN.1.keep cB);have uC:=Kh (uB.1.keep (λ_=>IsQ.solid _) cB);have uR:=Kh (uQ.1.keep (λ_=>IsQ.solid _) cB);have tD:=Kh (tC.1.keep (λ_=>IsQ.solid _) cB);have tM:=Kh (tL.1.keep (λ_=>IsQ.solid _) cB);have sM:=Kh (sL.1.keep (λ_=>IsQ.solid _) cB);have sS:=Kh (sR.1.keep (λ_=>IsQ.solid _) cB);have tQ:=Kh (tP.1.keep (λ_=>IsQ.solid _) cB);have vN:=bt vM cB;clear eP oS pI pW qH mC hS qM wN uB uQ tC tL sL sR tP vM cB;rw[R2.1]at B1;have uT:=Kh B1;clear B1 R2;go_upto_region 14 with(fail)
  obtain⟨wG,hwG⟩:∃x,wF.alloc (.cells #[.bool s9,.slice p9 n9 c9,.bool t9,.slice q9 m9 d9] 86)=x:=⟨_,rfl⟩
  obtain⟨yF,I⟩:=Gy wF #[.bool s9,.slice p9 n9 c9,.bool t9,.slice q9 m9 d9] 86;rw[hwG]at yF I ⊢;obtain⟨gx,zG⟩:∃x,wF.heap.size=x:=⟨_,rfl⟩
  rw[zG]at yF ⊢;have yU:=Kh yF;clear hwG yF zG;have rF:=Kh (bk rE I);have oU:=Kh (bk oT I);have pK:=Kh (bk pJ I);have pY:=Kh (bk pX I);have qJ:=Kh (bk qI I);have mE:=Kh (bk mD I);have hV:=Kh (bk hU I);have dC:=Kh (bk qN I);have wP:=Kh (wO.1.keep I);have uD:=Kh (uC.1.keep (λ_=>IsQ.solid _) I);have uS:=Kh (uR.1.keep (λ_=>IsQ.solid _) I);have tE:=Kh (tD.1.keep (λ_=>IsQ.solid _) I);have tN:=Kh (tM.1.keep (λ_=>IsQ.solid _) I);have sN:=Kh (sM.1.keep (λ_=>IsQ.solid _) I);have sT:=Kh (sS.1.keep (λ_=>IsQ.solid _) I);have oB:=Kh (tQ.1.keep (λ_=>IsQ.solid _) I);have hJ:=Kh (uT.1.keep I);have vO:=bt vN I;clear rE oT pJ pX qI mD hU qN wO uC uR tD tM sM sS tQ uT vN I;have bA:=yU;clear yU;have xU:=Kh (nS (Zu (Q:=m) (k:=v) (by have:=oG.1;omega) (by have:=oH.1;have:=HV.1;omega)) (show 22<=1000 by decide));have zS:=Kh (λW (hb:Below wG.heap.size wG W)=>Cx s9 p9 n9 c9 t9 q9 m9 d9 ((((m:Int) ^ v:Int)):Rat) s9 p9 n9 c9 t9 q9 m9 d9 ((((m:Int) ^ v:Int)):Rat) W (hJ.1.keep hb) (hJ.1.keep hb) (by have:=xU.1;omega) (by have:=xU.1;omega))
  have zR:=Kh (λj=>show hq (uF R (j / R) (j % R))<=430000000 by
   unfold uF;split
   ·rw[Ed];exact nS (Nat.max_le.2 ⟨Hz (by decide),nR 1⟩) (by decide)
   ·rw[Ed];exact nS (Nat.max_le.2 ⟨Hz (by decide),nR 1⟩) (by decide))
  have xY:=Kh (λW (hb:Below wG.heap.size wG W) s p n c t q m' d (hx:Qs W s p n c t q m' d (((((m:Int) ^ v:Int)):Rat)*((((m:Int) ^ v:Int)):Rat)))=>bR R R RL v7 c7 (λj=>uF R (j / R) (j % R)) s p n c t q m' d (((((m:Int) ^ v:Int)):Rat)*((((m:Int) ^ v:Int)):Rat)) W (oB.1.keep (λ_=>IsQ.solid _) hb) hB.1 (by have:=cC.1;omega) (by have:=cC.1;omega) hx (by have h1:=B7 ((((m:Int) ^ v:Int)):Rat) ((((m:Int) ^ v:Int)):Rat);have:=xU.1;omega) (λj _=>zR.1 j));have yG:=dC.1.at_ 0 rfl;have yH:=dC.1.at_ 1 rfl;have yI:=dC.1.at_ 2 rfl;have Y0:=bA.1.at_ 0 rfl;have Y1:=bA.1.at_ 1 rfl;have Y2:=bA.1.at_ 2 rfl;have Y4:=bA.1.at_ 3 rfl;go_cut [22,23]from 80 to 86 (λva vb wx=>∃g p8 c8,va=.pointer (some ⟨g,0,none⟩)/\vb=.int .i64 0/\Blk wx g 32 #[.int .i64 R,.int .i64 R,.slice p8 RL c8]/\QL (λj=>IsQ (((((m:Int) ^ v:Int)):Rat)*((((m:Int) ^ v:Int)):Rat)*uF R (j / R) (j % R))) wx (.slice p8 RL c8) RL/\Below wG.heap.size wG wx)
  case first=>
   refine jC [7,10] (λW=>W.cell? ⟨go,0,none⟩=some (.int .i64 R)/\W.cell? ⟨go,1,none⟩=some (.int .i64 R)/\W.cell? ⟨go,2,none⟩=some (.slice v7 RL c7)/\W.cell? ⟨gx,0,none⟩=some (.bool s9)/\W.cell? ⟨gx,1,none⟩=some (.slice p9 n9 c9)/\W.cell? ⟨gx,2,none⟩=some (.bool t9)/\W.cell? ⟨gx,3,none⟩=some (.slice q9 m9 d9)) (λW hb=>⟨Aq hb yG,Aq hb yH,Aq hb yI,Aq hb Y0,Aq hb Y1,Aq hb Y2,Aq hb Y4⟩) (λoI hHeld0=>?_);clear yG yH yI Y0 Y1 Y2 Y4;refine C8 0 ?_;refine C8 1 ?_;refine C8 2 ?_;refine dW 3 8 rfl rfl (λK hK=>?_) (λK hK=>?_)
   ·focus(go_simp;refine(zS.1 _ ((Below.refl wG.heap.size wG).drew)).mono ?_;rintro e w7 ⟨⟨s6,p6,n6,c6,t6,q6,m6,d6,rfl,xD⟩,gF⟩;have cA:=Kh (((Below.refl wG.heap.size wG).drew).trans (gF.mono ((Below.refl wG.heap.size wG).drew).size):Below wG.heap.size wG w7);have xZ:=Kh xD;clear xD;clear gF;(first|with_reducible refine hK.out _ _ ?_ (λhHeld1=>?_) |(go_wp2_with fail;with_reducible refine hK.out _ _ ?_ (λhHeld1=>?_))))
    focus((try dsimp only);exact oI.1 _ cA.1)
    focus(clear hK K;(try simp only[Act.put,Bo,Bt,Bp]))
    refine dW 4 8 rfl rfl (λK hK=>?_) (λK hK=>?_)
    ·focus(go_simp;refine(xY.1 _ (cA.1) _ _ _ _ _ _ _ _ (xZ.1)).mono ?_;rintro e w8 ⟨⟨p8,c8,rfl,rP⟩,V⟩;have hL:=Kh ((cA.1).trans (V.mono (cA.1).size):Below wG.heap.size wG w8);have wQ:=Kh rP;clear rP V;(first|with_reducible refine hK.out _ _ ?_ (λhHeld2=>?_) |(go_wp2_with fail;with_reducible refine hK.out _ _ ?_ (λhHeld2=>?_))))
     focus((try dsimp only);exact oI.1 _ hL.1)
     focus(clear hK K;(try simp only[Act.put,Bo,Bt,Bp]))
     refine C8 5 ?_;refine C8 6 ?_;refine lG 7 ?_;refine aA 8 rfl (λK hK=>?_);focus(go_simp;refine hK.out _ _ ?_ (λhHeld3=>?_))
     focus((try dsimp only);exact oI.1 _ (hL.1.alloc hL.1.size _))
     focus(clear hK K;(try simp only[Act.put,Bo,Bt,Bp]))
     refine fG 9 rfl (λK hK=>?_);go_simp
     refine hK.out _ _ ?_;clear hK K
     (try simp only[Act.put,Bo,Bt,Bp])
     refine eH 10 ?_;refine fA ?_;go_wp2;go_meet
     exact⟨w8.heap.size,p8,c8,rfl,rfl,Blk.new w8 32 #[.int .i64 R,.int .i64 R,.slice p8 RL c8],wQ.1.keep (λ_=>IsQ.solid _) ((Below.refl _ _).alloc (nR _) _),hL.1.alloc hL.1.size _⟩
    ·focus(go_simp;refine hK.out _ _ ?_ (λhHeld2=>?_))
     focus((try dsimp only);exact oI.1 _ (cA.1.alloc cA.1.size _))
     focus(clear hK K;(try simp only[Act.put,Bo,Bt,Bp]))
     refine aA 4 rfl (λK hK=>?_);focus(go_simp;refine(xY.1 _ ((cA.1.alloc cA.1.size (.cells #[.int .i64 0,.int .i64 0,.slice none 0 0] 32))) _ _ _ _ _ _ _ _ (xZ.1.keep ((Below.refl _ _).alloc (nR _) _))).mono ?_;rintro e w8 ⟨⟨p8,c8,rfl,rP⟩,V⟩;have hL:=Kh (((cA.1.alloc cA.1.size (.cells #[.int .i64 0,.int .i64 0,.slice none 0 0] 32))).trans (V.mono ((cA.1.alloc cA.1.size (.cells #[.int .i64 0,.int .i64 0,.slice none 0 0] 32))).size):Below wG.heap.size wG w8);have wQ:=Kh rP;have bE:=Kh (show Blk w8 w7.heap.size 32 #[.int .i64 0,.int .i64 0,.slice none 0 0]from(Blk.new w7 32 #[.int .i64 0,.int .i64 0,.slice none 0 0]).below_ V (by simp));have rT:=Kh (show wG.heap.size<=w7.heap.size from cA.1.size);clear rP V;(first|with_reducible refine hK.out _ _ ?_ (λhHeld3=>?_) |(go_wp2_with fail;with_reducible refine hK.out _ _ ?_ (λhHeld3=>?_))))
     focus((try dsimp only);exact oI.1 _ hL.1)
     focus(clear hK K;(try simp only[Act.put,Bo,Bt,Bp]))
     refine C8 5 ?_;refine C8 6 ?_;refine lG 7 ?_;have n0:=bE.1.at_ 0 rfl;have n1:=bE.1.at_ 1 rfl;have n2:=bE.1.at_ 2 rfl;have nf0:=bE.1.free_ 0;have nf1:=bE.1.free_ 1;have nf2:=bE.1.free_ 2;refine fG 9 rfl (λK hK=>?_);go_simp
     refine hK.out _ _ ?_;clear hK K
     (try simp only[Act.put,Bo,Bt,Bp])
     refine eH 10 ?_;refine fA ?_;go_wp2;go_meet
     exact⟨w7.heap.size,p8,c8,rfl,rfl,(((bE.1.set_ 0 _).set_ 1 _).set_ 2 _),wQ.1.boxM (Stk.of bE.1 (by intro v hv;simp at hv;rcases hv with rfl|rfl|rfl <;> exact λ_ h=>by cases h)) (Cc (Stk.of bE.1 (by intro v hv;simp at hv;rcases hv with rfl|rfl|rfl <;> exact λ_ h=>by cases h)) (λ_ h=>by cases h) (λ_ h=>by cases h)) (((Ad _ w7.heap.size 0 _).trans (Ad _ w7.heap.size 1 _)).trans (Ad _ w7.heap.size 2 _)),((hL.1.setCell (p:=⟨w7.heap.size,0,none⟩) rT.1 _).setCell (p:=⟨w7.heap.size,1,none⟩) rT.1 _).setCell (p:=⟨w7.heap.size,2,none⟩) rT.1 _⟩
   ·focus(go_simp;refine hK.out _ _ ?_ (λhHeld1=>?_))
    focus((try dsimp only);exact oI.1 _ ((Below.refl wG.heap.size wG).drew.alloc (nR _) (.cells #[.int .i64 0,.int .i64 0,.slice none 0 0] 32)))
    focus(clear hK K;(try simp only[Act.put,Bo,Bt,Bp]))
    refine aA 3 rfl (λK hK=>?_);focus(go_simp;refine(zS.1 _ (((Below.refl wG.heap.size wG).drew.alloc (nR _) (.cells #[.int .i64 0,.int .i64 0,.slice none 0 0] 32)))).mono ?_;rintro e w7 ⟨⟨s6,p6,n6,c6,t6,q6,m6,d6,rfl,xD⟩,gF⟩;have cA:=Kh ((((Below.refl wG.heap.size wG).drew.alloc (nR _) (.cells #[.int .i64 0,.int .i64 0,.slice none 0 0] 32))).trans (gF.mono (((Below.refl wG.heap.size wG).drew.alloc (nR _) (.cells #[.int .i64 0,.int .i64 0,.slice none 0 0] 32))).size):Below wG.heap.size wG w7);have xZ:=Kh xD;clear xD;have HX7:=Kh (show Blk w7 wG.heap.size 32 #[.int .i64 0,.int .i64 0,.slice none 0 0]from(Blk.new wG.drew 32 #[.int .i64 0,.int .i64 0,.slice none 0 0]).below_ gF (by simp));clear gF;(first|with_reducible refine hK.out _ _ ?_ (λhHeld2=>?_) |(go_wp2_with fail;with_reducible refine hK.out _ _ ?_ (λhHeld2=>?_))))
    focus((try dsimp only);exact oI.1 _ cA.1)
    focus(clear hK K;(try simp only[Act.put,Bo,Bt,Bp]))
    refine aA 4 rfl (λK hK=>?_);focus(go_simp;refine(xY.1 _ (cA.1) _ _ _ _ _ _ _ _ (xZ.1)).mono ?_;rintro e w8 ⟨⟨p8,c8,rfl,rP⟩,V⟩;have hL:=Kh ((cA.1).trans (V.mono (cA.1).size):Below wG.heap.size wG w8);have wQ:=Kh rP;have bE:=Kh (bk HX7 V);have rT:=Kh (nR wG.heap.size);clear rP V;(first|with_reducible refine hK.out _ _ ?_ (λhHeld3=>?_) |(go_wp2_with fail;with_reducible refine hK.out _ _ ?_ (λhHeld3=>?_))))
    focus((try dsimp only);exact oI.1 _ hL.1)
    focus(clear hK K;(try simp only[Act.put,Bo,Bt,Bp]))
    refine C8 5 ?_;refine C8 6 ?_;refine lG 7 ?_;have n0:=bE.1.at_ 0 rfl;have n1:=bE.1.at_ 1 rfl;have n2:=bE.1.at_ 2 rfl;have nf0:=bE.1.free_ 0;have nf1:=bE.1.free_ 1;have nf2:=bE.1.free_ 2;refine fG 9 rfl (λK hK=>?_);go_simp
    refine hK.out _ _ ?_;clear hK K
    (try simp only[Act.put,Bo,Bt,Bp])
    refine eH 10 ?_;refine fA ?_;go_wp2;go_meet
    exact⟨wG.heap.size,p8,c8,rfl,rfl,(((bE.1.set_ 0 _).set_ 1 _).set_ 2 _),wQ.1.boxM (Stk.of bE.1 (by intro v hv;simp at hv;rcases hv with rfl|rfl|rfl <;> exact λ_ h=>by cases h)) (Cc (Stk.of bE.1 (by intro v hv;simp at hv;rcases hv with rfl|rfl|rfl <;> exact λ_ h=>by cases h)) (λ_ h=>by cases h) (λ_ h=>by cases h)) (((Ad _ wG.heap.size 0 _).trans (Ad _ wG.heap.size 1 _)).trans (Ad _ wG.heap.size 2 _)),((hL.1.setCell (p:=⟨wG.heap.size,0,none⟩) rT.1 _).setCell (p:=⟨wG.heap.size,1,none⟩) rT.1 _).setCell (p:=⟨wG.heap.size,2,none⟩) rT.1 _⟩
  obtain⟨gq,v8,c8,rfl,rfl,XQ,wZ,bB⟩:=hcut;obtain⟨wH,rfl⟩:∃x:World,x=wc:=⟨_,rfl⟩
  clear zS xY;have rG:=Kh (bk rF bB);have oV:=Kh (bk oU bB);have pL:=Kh (bk pK bB);have cT:=Kh (bk pY bB);have qK:=Kh (bk qJ bB);have aX:=Kh (bk mE bB);have hW:=Kh (bk hV bB);have qO:=Kh (bk dC bB);have rJ:=Kh (bk bA bB);have HM_wH:=Kh (wP.1.keep bB);have HQS_wH:=Kh (uD.1.keep (λ_=>IsQ.solid _) bB);have HQT_wH:=Kh (uS.1.keep (λ_=>IsQ.solid _) bB);have xT:=Kh (tE.1.keep (λ_=>IsQ.solid _) bB);have xV:=Kh (tN.1.keep (λ_=>IsQ.solid _) bB);have xR:=Kh (sN.1.keep (λ_=>IsQ.solid _) bB);have xS:=Kh (sT.1.keep (λ_=>IsQ.solid _) bB);have xW:=Kh (oB.1.keep (λ_=>IsQ.solid _) bB);have HQX_wH:=Kh (hJ.1.keep bB);have vP:=bt vO bB;clear rF oU pK pY qJ mE hV dC bA wP uD uS tE tN sN sT oB hJ vO bB;have qQ:=Kh XQ;have xX:=Kh wZ;clear XQ wZ
  have hO:∀j,j<RL->j / R<R/\j % R<R:=λj hj=>by
   have h0:0<R:=by
    rcases Nat.eq_zero_or_pos R with h|h
    ·have:=hB.1;rw[h,Nat.mul_zero]at this;omega
    ·exact h
   exact⟨Nat.div_lt_of_lt_mul (by rw[hB.1];exact hj),Nat.mod_lt _ h0⟩
  have h72:RL<=72*72:=by rw[<-hB.1];exact Nat.mul_le_mul cC.1 cC.1
  have E1:∀j,j<RL->uF R (j / R) (j % R)=if j % R=j / R then 1 else 0:=λj hj=>by
   unfold uF;by_cases h:j / R=j % R
   ·rw[if_pos ⟨h,(hO j hj).1⟩,if_pos h.symm];rfl
   ·rw[if_neg (λe=>h e.1),if_neg (λe=>h e.symm)];rfl
  have zJ:((((m:Int) ^ v:Int)):Rat)*((((m:Int) ^ v:Int)):Rat)=((((m:Int) ^ wt:Int)):Rat):=by
   have h1:(m:Int) ^ wt=(m:Int) ^ v*(m:Int) ^ v:=by rw[HV.1,Nat.two_mul,Int.pow_add]
   rw[h1];push_cast;rfl
  have HSA:=Kh (λW (hb:Below wH.heap.size wH W)=>Hp R R (.slice v5 RL c5) (.slice v3 RL c3) RL (λj=>RM3 (j / R) (j % R)) W (QL.eqv (xR.1.keep (λ_=>IsQ.solid _) hb) (λj hj=>K1.1 _ _ (hO j hj).1 (hO j hj).2)) (xT.1.keep (λ_=>IsQ.solid _) hb) (by omega) (λj hj=>nS (S2.1 _ _ (hO j hj).1 (hO j hj).2) (by decide)))
  have HSB:=Kh (λW (hb:Below wH.heap.size wH W)=>Hp R R (.slice v6 RL c6) (.slice v8 RL c8) RL (λj=>((((m:Int) ^ v:Int)):Rat)*((((m:Int) ^ v:Int)):Rat)*uF R (j / R) (j % R)) W (QL.eqv (xS.1.keep (λ_=>IsQ.solid _) hb) (λj hj=>by rw[HSQ.1 _ _ (hO j hj).1 (hO j hj).2,zJ,E1 j hj])) (xX.1.keep (λ_=>IsQ.solid _) hb) (by omega) (λj hj=>by
   have h1:=B7 (((((m:Int) ^ v:Int)):Rat)*((((m:Int) ^ v:Int)):Rat)) (uF R (j / R) (j % R));have h2:=B7 ((((m:Int) ^ v:Int)):Rat) ((((m:Int) ^ v:Int)):Rat);have h3:=zR.1 j;have h4:=xU.1;omega))
  have HSO:=Kh (λW (hb:Below wH.heap.size wH W)=>Hp R R (.slice v4 RL c4) (.slice v7 RL c7) RL (λj=>uF R (j / R) (j % R)) W (QL.eqv (xV.1.keep (λ_=>IsQ.solid _) hb) (λj hj=>by rw[L1.1 _ _ (hO j hj).1 (hO j hj).2,E1 j hj])) (xW.1.keep (λ_=>IsQ.solid _) hb) (by omega) (λj hj=>nS (zR.1 j) (by decide)));clear hO h72 E1 zJ;have sD:=Kh (Below.refl wH.heap.size wH);have X7:=aX.1.at_ 0 rfl;have X8:=aX.1.at_ 1 rfl;have X9:=aX.1.at_ 2 rfl;have gc0:=cT.1.at_ 0 rfl;have gc1:=cT.1.at_ 1 rfl;have gc2:=cT.1.at_ 2 rfl;go_wp2_with fail
  refine(HSA.1 wH sD.1).mono ?_;rintro e wI ⟨rfl,hE⟩;have sE:=bt sD hE;clear X7 X8 X9 gc0 gc1 gc2;have rH:=Kh (bk rG hE);have oW:=Kh (bk oV hE);have pM:=Kh (bk pL hE);have pZ:=Kh (bk cT hE);have qL:=Kh (bk qK hE);have nA:=Kh (bk aX hE);have Z:=Kh (bk hW hE);have qP:=Kh (bk qO hE);have rK:=Kh (bk rJ hE);have dY:=Kh (bk qQ hE);have vQ:=bt vP hE;clear rG oV pL cT qK aX hW qO rJ qQ vP hE;have X4:=Z.1.at_ 0 rfl;have X5:=Z.1.at_ 1 rfl;have X6:=Z.1.at_ 2 rfl;have gq0:=dY.1.at_ 0 rfl;have gq1:=dY.1.at_ 1 rfl;have gq2:=dY.1.at_ 2 rfl;go_wp2_with fail
  refine(HSB.1 wI sE.1).mono ?_;rintro e wJ ⟨rfl,hG⟩;have sF:=bt sE hG;clear X4 X5 X6 gq0 gq1 gq2;have rI:=Kh (bk rH hG);have oX:=Kh (bk oW hG);have pN:=Kh (bk pM hG);have qA:=Kh (bk pZ hG);have cX:=Kh (bk qL hG);have nB:=Kh (bk nA hG);have hY:=Kh (bk Z hG);have dE:=Kh (bk qP hG);have rL:=Kh (bk rK hG);have qR:=Kh (bk dY hG);have vR:=bt vQ hG;clear rH oW pM pZ qL nA Z qP rK dY vQ hG;have gg0:=cX.1.at_ 0 rfl;have gg1:=cX.1.at_ 1 rfl;have gg2:=cX.1.at_ 2 rfl;have yG:=dE.1.at_ 0 rfl;have yH:=dE.1.at_ 1 rfl;have yI:=dE.1.at_ 2 rfl;go_wp2_with fail
  refine(HSO.1 wJ sF.1).mono ?_;rintro e wK ⟨rfl,hH⟩;have HBH_wK:=bt sF hH;clear gg0 gg1 gg2 yG yH yI;have U2:=Kh (bk rI hH);have S3:=Kh (bk oX hH);have S4:=Kh (bk pN hH);have T1:=Kh (bk qA hH);have T2:=Kh (bk cX hH);have H3:=Kh (bk nB hH);have H2:=Kh (bk hY hH);have U0:=Kh (bk dE hH);have V2:=Kh (bk rL hH);have U1:=Kh (bk qR hH);have zK:=bt vR hH;clear rI oX pN qA cX nB hY dE rL qR vR hH;go_wp2;go_ret;exact⟨rfl,zK.1⟩
end
section
open Go.RowKit Go.ChangeShapes Go.WideShapes Go.Deep
theorem Ua {k:IntKind} {n:Int} (h:(Lit.int k n).wf=true):k.min<=n/\n<=k.max:=by simpa [Lit.wf] using h
section
variable {H:Type} {enc:TypeId×Value->H} {w:World} {sp:Nat->Bool} {hd:Bool}
end
end
end Go.Proofs.YtenlbhlllgppmaaGreatDoor
