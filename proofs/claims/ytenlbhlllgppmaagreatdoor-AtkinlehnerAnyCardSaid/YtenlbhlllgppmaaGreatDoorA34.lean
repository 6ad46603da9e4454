/- The law AtkinlehnerAny, walked: it returns true. -/
import Derived.Test.YtenlbhlllgppmaaGreatDoorA33
set_option linter.unusedSimpArgs false
set_option maxRecDepth 100000
set_option maxHeartbeats 8000000
namespace Go.Proofs.YtenlbhlllgppmaaGreatDoor
open Go.RowKit Eli Tryz
theorem lD (N k D q:Int) (pa:Option Addr) (la ca:Nat) (xa:Nat->Int) (x1 x2 y1 y2 z1 z2 a b c d:Int) (w:World) (hT:Tab w)
  (Q3:∀k,k<la->∃g o,pa=some ⟨g,o,none⟩/\g<w.heap.size/\w.cell? ⟨g,o+k,none⟩=some (.int .i8 (xa k))) (wX:∀k,k<la->-128<=xa k/\xa k<=127) (S0:-9223372036854775808<=q) (xS:q<=9223372036854775807) (V2:-9223372036854775808<=x1) (xT:x1<=9223372036854775807) (V3:-9223372036854775808<=x2) (xU:x2<=9223372036854775807) (W1:-9223372036854775808<=y1) (xV:y1<=9223372036854775807) (W2:-9223372036854775808<=y2) (xW:y2<=9223372036854775807) (ha:-128<=a) (L2:a<=127) (hb:-128<=b) (M1:b<=127) (hc:-128<=c) (P0:c<=127) (hd:-128<=d) (yP:d<=127):
  Calls prog 6 #[.agg #[.int .i64 N,.int .i64 k,.int .i64 D],.int .i64 q,.agg #[.slice pa la ca,.int .i64 x1,.int .i64 x2,.int .i64 y1,.int .i64 y2,.int .i64 z1,.int .i64 z2,.int .i8 a,.int .i8 b,.int .i8 c,.int .i8 d]] w λe w'=>e=.returned (.bool true)/\Below w.heap.size w w':=by
 obtain⟨lb,P7,P8⟩:=Eb N k D;have zJ:=Kh P7;have yD:=Kh P8;obtain⟨MX,hmx,m1,m2,m3,m4⟩:=Yh prog x1 x2 y1 y2;obtain⟨MN,hmn,m5,m6⟩:=Yi prog x1 y1;have zK:=Kh (And.intro (And.intro m1 m2) (And.intro (And.intro m3 m4) (And.intro m5 m6)));have HT:=Kh hT;have vY:=Kh (And.intro S0 xS);have zG:=Kh (λ(n:Nat) (h1:0<n) (h2:n<=72) W=>aL n (a.tmod 8) (b.tmod 8) (c.tmod 4) d W h1 h2 (lQ a).1 (lQ a).2 (lQ b).1 (lQ b).2 (mF c).1 (mF c).2 hd yP);have HR:=Kh (And.intro (And.intro ha L2) (And.intro (And.intro hb M1) (And.intro (And.intro hc P0) (And.intro hd yP))));have zM:=Kh (λW (hb:Below w.heap.size w W) (m:Nat) (hm:m<=1000)=>dT pa la ca xa m W (λk hk=>by obtain⟨g,o,e,hg,hc⟩:=Q3 k hk;exact⟨g,o,e,mI hg hb.size,(hb.cell (p:=⟨g,o+k,none⟩) hg).trans hc⟩) wX hm);have vX:=Kh (show ∀j,hq (F8 xa la j)<=4 from λj=>mH (St wX) (by decide));have zC:=Kh (λ(M n wt:Nat) (D:Int) (F:List Nat) (C:Nat) (X:Nat->Nat->Rat) (W:World) (v:Value) (hb:Below w.heap.size w W) (hm:ModR W M n wt D F C X) (hq:QL (λj=>IsQ (F8 xa la j)) W v (wt+1))=>Gv (hT.below hb) hm v (F8 xa la) x1 x2 y1 y2 hq (λj _=>mH (St wX) (by decide)) V2 xT V3 xU W1 xV W2 xW);clear hT S0 xS Q3 wX P7 P8 m1 m2 m3 m4 m5 m6 V2 xT V3 xU W1 xV W2 xW ha L2 hb M1 hc P0 hd yP;go_enter func6,ntmps6
 go_wp2_with fail
 obtain⟨w0,T1,XS,XC,wR⟩:=bx2 w #[.int .i64 N,.int .i64 k,.int .i64 D] 23 #[.slice pa la ca,.int .i64 x1,.int .i64 x2,.int .i64 y1,.int .i64 y2,.int .i64 z1,.int .i64 z2,.int .i8 a,.int .i8 b,.int .i8 c,.int .i8 d] 50;rw[T1];refine(eK w0 (HT.1.below wR)).mono ?_;rintro e wa ⟨rfl,wS⟩;obtain⟨gs,P3⟩:∃x,w.heap.size=x:=⟨_,rfl⟩
 obtain⟨gc,P1⟩:∃x,w.heap.size+1=x:=⟨_,rfl⟩
 have yH:=XS.below_ wS XS.lt;have yG:=XC.below_ wS XC.lt;rw[P1]at yG ⊢;rw[P3]at yH ⊢;have hI:=Kh yH;have oJ:=Kh yG;have uI:=Kh (wR.trans (wS.mono wR.size));clear T1 XS XC wR wS P3 P1 yH yG;have qG:=hI.1.at_ 0 rfl;have qH:=hI.1.at_ 1 rfl;have wO:=hI.1.at_ 2 rfl;go_wp2_with fail
 refine(zJ.1 wa).mono ?_;rintro e wb ⟨rfl,wT⟩;clear qG qH wO;have cC:=Kh (bk hI wT);have aD:=Kh (bk oJ wT);have hB:=bt uI wT;clear hI oJ uI wT;clear zJ;cases lb with
 | true=>
  go_wp2;go_ret;exact⟨rfl,hB.1⟩
 | false=>
  have tO:=aD.1.at_ 1 rfl;have tP:=aD.1.at_ 2 rfl;have tQ:=aD.1.at_ 3 rfl;have tR:=aD.1.at_ 4 rfl;by_cases hM:(400:Int)<MX
  case pos=>
   go_wp2;go_ret;exact⟨rfl,hB.1⟩
  by_cases hm:MN < -400
  case pos=>
   go_wp2;go_ret;exact⟨rfl,hB.1⟩
  have HCB:=Kh (show(x1<=400/\x2<=400/\y1<=400/\y2<=400)/\-400<=x1/\-400<=y1 by have:=zK.1;omega);have G7:¬((400:Int)<MX):=hM;have P9:¬(MN < -400):=hm;clear zK;have qG:=cC.1.at_ 0 rfl;have qH:=cC.1.at_ 1 rfl;have wO:=cC.1.at_ 2 rfl;by_cases hck:Pl.check N k D=0
  case neg=>
   have HOB:=Kh (λW=>L3 N k D q 1 W hck);clear hck yD;go_wp2_with fail
   refine(HOB.1 wb).mono ?_;rintro e wc1 ⟨rfl,nO⟩;clear tO tP tQ tR hM hm G7 P9 qG qH wO;have zA:=Kh (bk cC nO);have yZ:=Kh (bk aD nO);have mT:=bt hB nO;clear cC aD hB nO;go_wp2;go_ret;exact⟨rfl,(mT.1.alloc mT.1.size _).alloc (mH mT.1.size (by simp)) _⟩
  have mR:Pl.check N k D=0:=hck;obtain⟨h1,h2,h3,h4,_,_⟩:=Aj mR;obtain⟨n,en⟩:∃n:Nat,(n:Int)=N:=⟨N.toNat,by omega⟩
  obtain⟨wt,ek⟩:∃wt:Nat,(wt:Int)+2=k:=⟨(k - 2).toNat,by omega⟩
  have hC:=yD.1 (by simp) n wt en.symm ek.symm mR;rw[<-en,<-ek]at mR;have U2:wt<=22:=by omega
  have wV:0<n:=by omega
  have Q1:n<=72:=by
   have h5:=kY wV;have h6:1*(pts n (n*n)).length<=(wt+1)*(pts n (n*n)).length:=Nat.mul_le_mul_right _ (by omega);unfold cntF at hC;omega
  obtain⟨γ,yU⟩:=G6 (n:=n) wV;have wW:=Wa n wt D q 1 wb (HT.1.below hB.1) mR hC yU vY.1.1 vY.1.2 (by decide) (by decide);rw[en,ek]at wW;have yO:Crd n wt D _ _:=J7 (n:=n) (wt:=wt) (D:=D) (by omega);obtain⟨F,hF⟩:∃F,frs (Cb n wt D) (cntF n wt)=F:=⟨_,rfl⟩
  obtain⟨X,hX⟩:∃X,Bk (Cb n wt D) (cntF n wt) (cntF n wt)=X:=⟨_,rfl⟩
  obtain⟨C,E2⟩:∃C,cntF n wt=C:=⟨_,rfl⟩
  rw[hF,hX,E2]at wW;rw[hF,hX]at yO;have zL:=Kh wW;have zE:=Kh yO;have zH:=Kh yU;have mD:=Kh (And.intro wV (And.intro Q1 U2));have yA:=Kh (And.intro en ek);have uL:=Kh mR;clear yD hck mR h1 h2 h3 h4 en ek hC U2 wV Q1 yU wW yO hF hX E2;go_wp2_with fail
  refine zL.1.mono ?_;rintro e w2 ⟨⟨M,a1,b1,v1,s1,c1,e1,a2,b2,v2,s2,c2,e2,rfl,Q0,vM,_⟩,nO⟩;clear zL hmx hmn;clear tO tP tQ tR hM hm G7 P9 qG qH wO;have pR:=Kh (bk cC nO);have nX:=Kh (bk aD nO);have mC:=bt hB nO;clear cC aD hB nO;have mU:=Kh Q0;clear Q0;by_cases hok:e1=0/\e2=0
  case neg=>
   rw[decide_eq_false hok];clear hok vM;go_wp2;go_ret;exact⟨rfl,(mC.1.alloc mC.1.size _).alloc (mH mC.1.size (by simp)) _⟩
  rw[decide_eq_true hok];obtain⟨m,A,B,C0,E,hD,R1,hU,ra,rb,rc,yQ,yS⟩:=vM.2 hok.1;clear vM hok;subst hD
  have tT:∀kk,kk<F.length->Av x1 x2=0->Av y1 y2=0->Dt (λi=>Pot (Ag n wt 1 (λj=>X j (F.getD i 0)) (F8 xa la)) (y1,y2) - Pot (Ag n wt 1 (λj=>X j (F.getD i 0)) (F8 xa la)) (x1,x2)) (wM n wt 1 F X γ A B C0 E) F.length kk=clG n wt 1 (λj=>X j (F.getD kk 0)) A B C0 E (F8 xa la) (x1,x2) (y1,y2):=λkk hk h1 h2=>
   (PF.coords uL.1 zE.1 (PF.of_norm uL.1 (mU.1.rel _ (Bd hk)) hU.det0 (Rt uL.1 hU)) zH.1 (F8 xa la) (Qv h1) (Qv h2)).symm
  have tW:=Kh tT;have vC:=Kh mU.1.rel;have tM:=Kh (And.intro R1 hU);obtain⟨R,hR⟩:∃R,F.length=R:=⟨_,rfl⟩
  obtain⟨RM,wQ⟩:∃RM,wM n wt 1 F X γ A B C0 E=RM:=⟨_,rfl⟩
  obtain⟨RL,wP⟩:∃x,R*R=x:=⟨_,rfl⟩
  rw[wQ,hR]at tW;rw[wQ,hR,wP]at yQ;rw[wQ,hR]at yS;rw[hR]at ra rb;rw[hR,wP]at rc;subst ra rb;have rc':=rc.symm;clear rc;subst rc';have qZ:=Kh hR;have zN:=Kh wP;have HST:=Kh yS;have rY:=Kh yQ;clear tT hU R1 hR wQ wP yS yQ zE zH;go_upto_region 8 with(fail)
  obtain⟨w3,T2⟩:∃x,(w2.alloc (.cells #[.int .i64 R,.int .i64 R,.slice v1 RL c1] 32)).alloc (.cells #[.int .i64 a2,.int .i64 b2,.slice v2 s2 c2] 32)=x:=⟨_,rfl⟩
  obtain⟨XM,_,rM⟩:=Oc w2 #[.int .i64 R,.int .i64 R,.slice v1 RL c1] 32 #[.int .i64 a2,.int .i64 b2,.slice v2 s2 c2] 32;rw[T2]at XM rM ⊢;obtain⟨gm,P2⟩:∃x,w2.heap.size=x:=⟨_,rfl⟩
  rw[P2]at XM ⊢;have xJ:=Kh XM;clear T2 XM P2;have mL:=Kh (bk pR rM);have bE:=Kh (bk nX rM);have uS:=Kh (mU.1.keep rM);have rZ:=Kh (rY.1.keep (λ_=>IsQ.solid _) rM);have mS:=bt mC rM;clear pR nX mU rY mC rM;have oW:=xJ;clear xJ;obtain⟨L1,G5⟩:∃L,wt+1=L:=⟨_,rfl⟩
  have hk1:k - 1=(L1:Int):=by have:=yA.1;omega
  have vM:IntKind.i64.wrap (L1:Int)=(L1:Int):=IntWalk.i64_in _ (by have:=mD.1;omega);have yB:=Kh G5;have zI:=Kh (show L1<=1000 by have:=mD.1;omega);have yE:=Kh (λW (hb:Below w3.heap.size w3 W)=>zM.1 W (mS.1.trans (hb.mono mS.1.size)) L1 zI.1);clear G5 zM zI;have qH:=mL.1.at_ 1 rfl;have yI:=bE.1.at_ 0 rfl;have tO:=bE.1.at_ 1 rfl;have tP:=bE.1.at_ 2 rfl;have tQ:=bE.1.at_ 3 rfl;have tR:=bE.1.at_ 4 rfl;go_cut [11]from 68 to 78 (λv9 wx=>∃gp p5 c5,v9=.pointer (some ⟨gp,0,none⟩)/\Blk wx gp 57 #[.slice p5 L1 c5,.int .i64 x1,.int .i64 x2,.int .i64 y1,.int .i64 y2]/\QL (λj=>IsQ (F8 xa la j)) wx (.slice p5 L1 c5) L1/\Below w3.heap.size w3 wx)
  case first=>
   refine iW [] (λW=>W.cell? ⟨gc,0,none⟩=some (.slice pa la ca)/\W.cell? ⟨gs,1,none⟩=some (.int .i64 k)/\W.cell? ⟨gc,1,none⟩=some (.int .i64 x1)/\W.cell? ⟨gc,2,none⟩=some (.int .i64 x2)/\W.cell? ⟨gc,3,none⟩=some (.int .i64 y1)/\W.cell? ⟨gc,4,none⟩=some (.int .i64 y2)) (λW hb=>⟨Au hb yI,Au hb qH,Au hb tO,Au hb tP,Au hb tQ,Au hb tR⟩) (λcD hHeld0=>?_);clear qH yI tO tP tQ tR;refine De 0 ?_;refine De 1 ?_;refine De 2 ?_;refine De 3 ?_;refine De 4 ?_;refine De 6 ?_;refine De 7 ?_;refine De 8 ?_;refine De 9 ?_;refine iN 5 11 rfl rfl (λK hK=>?_) (λK hK=>?_)
   ·focus(go_simp;refine(yE.1 _ (Below.refl _ w3).drew).mono ?_;rintro e w7 ⟨⟨v7,rfl,qL⟩,Z⟩;obtain⟨p7,c7,rfl⟩:=Fk qL.ql;have O:=Kh ((Below.refl _ w3).drew.trans Z:Below w3.heap.size w3 w7);have yF:=Kh qL.ql;clear qL Z;(first|with_reducible refine hK.out _ _ ?_ (λhHeld1=>?_) |(go_wp2_with fail;with_reducible refine hK.out _ _ ?_ (λhHeld1=>?_))))
    focus((try dsimp only);exact cD.1 _ O.1)
    focus(clear hK K;(try simp only[Act.put,Br,Bt,Bs]))
    refine De 10 ?_;refine iY 11 rfl (λK hK=>?_);focus(go_simp;refine hK.out _ _ ?_ (λhHeld2=>?_))
    focus((try dsimp only);exact cD.1 _ (O.1.alloc O.1.size _))
    focus(clear hK K;(try simp only[Act.put,Br,Bt,Bs]))
    refine kI 12 rfl (λK hK=>?_);go_simp
    refine hK.out _ _ ?_;clear hK K
    (try simp only[Act.put,Br,Bt,Bs])
    go_wp2;go_meet
    exact⟨w7.heap.size,p7,c7,rfl,Blk.new w7 57 #[.slice p7 L1 c7,.int .i64 x1,.int .i64 x2,.int .i64 y1,.int .i64 y2],yF.1.keep (λ_=>IsQ.solid _) ((Below.refl _ _).alloc (mG _) _),O.1.alloc O.1.size _⟩
   ·focus(go_simp;refine hK.out _ _ ?_ (λhHeld1=>?_))
    focus((try dsimp only);exact cD.1 _ ((Below.refl _ w3).drew.alloc (mG _) _))
    focus(clear hK K;(try simp only[Act.put,Br,Bt,Bs]))
    refine iY 5 rfl (λK hK=>?_);focus(go_simp;refine(yE.1 _ ((Below.refl _ w3).drew.alloc (mG _) _)).mono ?_;rintro e w7 ⟨⟨v7,rfl,qL⟩,Z⟩;obtain⟨p7,c7,rfl⟩:=Fk qL.ql;have O:=Kh (((Below.refl _ w3).drew.alloc (mG _) _).trans (Z.mono (by simp)):Below w3.heap.size w3 w7);have yF:=Kh qL.ql;have HGT:=Kh qL.fromO;have I:=Kh (show Blk w7 w3.heap.size 57 #[.slice none 0 0,.int .i64 0,.int .i64 0,.int .i64 0,.int .i64 0]from(Blk.new w3.drew 57 #[.slice none 0 0,.int .i64 0,.int .i64 0,.int .i64 0,.int .i64 0]).below_ Z (by simp));clear qL Z;(first|with_reducible refine hK.out _ _ ?_ (λhHeld2=>?_) |(go_wp2_with fail;with_reducible refine hK.out _ _ ?_ (λhHeld2=>?_))))
    focus((try dsimp only);exact cD.1 _ O.1)
    focus(clear hK K;(try simp only[Act.put,Br,Bt,Bs]))
    refine De 10 ?_;have n0:=I.1.at_ 0 rfl;have n1:=I.1.at_ 1 rfl;have n2:=I.1.at_ 2 rfl;have n3:=I.1.at_ 3 rfl;have n4:=I.1.at_ 4 rfl;have wY:=I.1.free_ 0;have wZ:=I.1.free_ 1;have xA:=I.1.free_ 2;have xB:=I.1.free_ 3;have xC:=I.1.free_ 4;refine kI 12 rfl (λK hK=>?_);go_simp
    refine hK.out _ _ ?_;clear hK K
    (try simp only[Act.put,Br,Bt,Bs])
    go_wp2;go_meet
    obtain⟨f1,f2,f3⟩:=J0 (i:=x1) (j:=x2) (k:=y1) (l:=y2) (B:=w3.heap.size) rfl I.1 yF.1 (λe he=>by have h7:=HGT.1 e he;(try simp only[World.alloc,World.drew,Array.size_push]at h7);omega) (mG _) O.1;exact⟨w3.heap.size,p7,c7,rfl,f1,f2,f3⟩
  obtain⟨gp,p5,vH,rfl,XQ,qM,U⟩:=hcut;obtain⟨w5,rfl⟩:∃w5:World,w5=wc:=⟨_,rfl⟩
  clear yE hk1 vM;clear qH yI tO tP tQ tR;have pS:=Kh (bk mL U);have nY:=Kh (bk bE U);have oX:=Kh (bk oW U);have qU:=Kh (uS.1.keep U);have sA:=Kh (rZ.1.keep (λ_=>IsQ.solid _) U);have qP:=bt mS U;clear mL bE oW uS rZ mS U;have bY:=Kh XQ;have mW:=Kh qM;clear XQ qM;have zD:=Kh (zC.1 M n wt 1 F C X w5 (.slice p5 L1 vH) qP.1 qU.1 (by rw[yB.1];exact mW.1));clear zC;have nJ:=bY.1.at_ 0 rfl;have nK:=bY.1.at_ 1 rfl;have nL:=bY.1.at_ 2 rfl;have nM:=bY.1.at_ 3 rfl;have nN:=bY.1.at_ 4 rfl;go_wp2_with fail
  refine zD.1.mono ?_;rintro e w6 ⟨tV,Z⟩;clear zD;obtain⟨vV,mV,cV,eV,rfl,S3,S4,_⟩:=tV.val;have tN:=Kh S3;clear tV S3;clear nJ nK nL nM nN;have mM:=Kh (bk pS Z);have nZ:=Kh (bk nY Z);have oY:=Kh (bk oX Z);have pI:=Kh (bk bY Z);have uT:=Kh (qU.1.keep Z);have sB:=Kh (sA.1.keep (λ_=>IsQ.solid _) Z);have rP:=Kh (mW.1.keep (λ_=>IsQ.solid _) Z);have tZ:=bt qP Z;clear pS nY oX bY qU sA mW qP Z;have tI:=Kh S4;clear S4;have vJ:=Lk n q w6 mD.1.1 (by have:=mD.1;omega) vY.1.1 vY.1.2;rw[yA.1.1]at vJ;have xD:=Kh vJ;clear vJ;have qG:=mM.1.at_ 0 rfl;go_wp2_with fail
  refine xD.1.mono ?_;rintro e w7 ⟨S1,Y⟩;clear xD;obtain⟨m',A',B',C',E',R2,rfl,xP⟩:=S1.resolve_left (λh=>h.1 (by rw[tM.1.1];exact tM.1.2.ok));obtain rfl:m=m':=by have:=tM.1.1;omega
  obtain⟨k1,k2,k3,k4⟩:=tM.1.2.uniq xP;subst k1 k2 k3 k4;clear S1 xP R2;clear qG;have pT:=Kh (bk mM Y);have oA:=Kh (bk nZ Y);have oZ:=Kh (bk oY Y);have pJ:=Kh (bk pI Y);have tJ:=Kh (λh=>(tI.1 h).keep Y);have uU:=Kh (uT.1.keep Y);have sC:=Kh (sB.1.keep (λ_=>IsQ.solid _) Y);have rQ:=Kh (rP.1.keep (λ_=>IsQ.solid _) Y);have uA:=bt tZ Y;clear mM nZ oY pI tI uT sB rP tZ Y;have HRR:=HR.1;obtain⟨A8,hA8⟩:∃x,a.tmod 8=x:=⟨_,rfl⟩
  obtain⟨B8,yK⟩:∃x,b.tmod 8=x:=⟨_,rfl⟩
  obtain⟨C4,yL⟩:∃x,c.tmod 4=x:=⟨_,rfl⟩
  have ta:=lQ a;have tb:=lQ b;have tc:=mF c;rw[hA8]at ta;rw[yK]at tb;rw[yL]at tc;have vL:=λW=>zG.1 n mD.1.1 mD.1.2.1 W
  rw[hA8,yK,yL,yA.1.1]at vL;have xE:=Kh vL;have wa:IntKind.i64.wrap a=a:=IntWalk.i64_in _ (by omega);have wb':IntKind.i64.wrap b=b:=IntWalk.i64_in _ (by omega);have wc':IntKind.i64.wrap c=c:=IntWalk.i64_in _ (by omega);have wd:IntKind.i64.wrap d=d:=IntWalk.i64_in _ (by omega);have wA:IntKind.i64.wrap A8=A8:=IntWalk.i64_in _ (by omega);have wB:IntKind.i64.wrap B8=B8:=IntWalk.i64_in _ (by omega);have wC:IntKind.i64.wrap C4=C4:=IntWalk.i64_in _ (by omega);clear vL zG HRR ta tb tc;go_upto_region 11 with(fail)
  obtain⟨w8,U0⟩:∃x,w7.alloc (.cells #[.int .i64 A,.int .i64 B,.int .i64 C0,.int .i64 E] 63)=x:=⟨_,rfl⟩
  obtain⟨wI,hJ⟩:=Gs w7 #[.int .i64 A,.int .i64 B,.int .i64 C0,.int .i64 E] 63;rw[U0]at wI hJ ⊢;obtain⟨gg,xQ⟩:∃x,w7.heap.size=x:=⟨_,rfl⟩
  rw[xQ]at wI ⊢;have xH:=Kh wI;clear U0 wI xQ;have mN:=Kh (bk pT hJ);have cG:=Kh (bk oA hJ);have pA:=Kh (bk oZ hJ);have pK:=Kh (bk pJ hJ);have tK:=Kh (λh=>(tJ.1 h).keep hJ);have uV:=Kh (uU.1.keep hJ);have sD:=Kh (sC.1.keep (λ_=>IsQ.solid _) hJ);have rR:=Kh (rQ.1.keep (λ_=>IsQ.solid _) hJ);have uB:=bt uA hJ;clear pT oA oZ pJ tJ uU sC rQ uA hJ;have oK:=xH;clear xH;have qG:=mN.1.at_ 0 rfl;have gc7:=cG.1.at_ 7 rfl;have gc8:=cG.1.at_ 8 rfl;have gc9:=cG.1.at_ 9 rfl;have C2:=cG.1.at_ 10 rfl;go_wp2_with fail
  refine(xE.1 w8).mono ?_;rintro e w9 ⟨vL,J⟩;clear xE wa wb' wc' wd wA wB wC hA8 yK yL;clear qG gc7 gc8 gc9 C2;have pU:=Kh (bk mN J);have oB:=Kh (bk cG J);have pB:=Kh (bk pA J);have pL:=Kh (bk pK J);have oL:=Kh (bk oK J);have hW:=Kh (λh=>(tK.1 h).keep J);have uW:=Kh (uV.1.keep J);have sE:=Kh (sD.1.keep (λ_=>IsQ.solid _) J);have rS:=Kh (rR.1.keep (λ_=>IsQ.solid _) J);have gU:=bt uB J;clear mN cG pA pK oK tK uV sD rR uB J;rcases vL with rfl |⟨ea,eb,ec,ed,rfl,hG,rA,rB,rC,rE⟩
  case inl=>
   by_cases hz:eV=0
   ·subst hz
    clear tN hW;go_wp2;go_ret;exact⟨rfl,gU.1.alloc gU.1.size _⟩
   ·have hzn:(eV != 0)=true:=by rw[bne_iff_ne];exact hz
    obtain rfl:=tN.1 hz;clear tN hW hz;go_wp2;go_ret;exact⟨rfl,gU.1.alloc gU.1.size _⟩
  by_cases hz:eV=0
  case neg=>
   have hzn:(eV != 0)=true:=by rw[bne_iff_ne];exact hz
   obtain rfl:=tN.1 hz;clear tN hW hz;go_wp2;go_ret;exact⟨rfl,gU.1.alloc gU.1.size _⟩
  subst hz;obtain⟨⟨qI,qJ⟩,gv,rfl,rfl,rfl,tV,yR⟩:=hW.1 rfl;clear tN hW;obtain⟨V,hV⟩:∃V:Nat->Rat,(λi=>Pot (Ag n wt 1 (λj=>X j (F.getD i 0)) (F8 xa la)) (y1,y2) - Pot (Ag n wt 1 (λj=>X j (F.getD i 0)) (F8 xa la)) (x1,x2))=V:=⟨_,rfl⟩
  have yN:∀i,Pot (Ag n wt 1 (λj=>X j (F.getD i 0)) (F8 xa la)) (y1,y2) - Pot (Ag n wt 1 (λj=>X j (F.getD i 0)) (F8 xa la)) (x1,x2)=V i:=λi=>congrFun hV i
  rw[hV]at tW;rw[qZ.1]at tV yR ⊢;have sS:=Kh (show QRow (λj=>IsQ (V j)) w9 gv R R from tV.congr (λj _=>by rw[yN]));have HSV:=Kh (show ∀j,j<R->hq (V j)<=430000000 from λj hj=>by rw[<-yN];exact yR j hj);have hcb:=HCB.1
  have hyx:0<=x2:=by
   have h:=qI;unfold Av at h;split at h
   ·omega
   ·omega
  have hyy:0<=y2:=by
   have h:=qJ;unfold Av at h;split at h
   ·omega
   ·omega
  have hU:=tM.1.2;have Q2:=mD.1.2.1
  have bG:A.natAbs<=72/\B.natAbs<=72/\C0.natAbs<=72/\E.natAbs<=72:=by
   have h1:=hU.bA;have h2:=hU.bB;have h3:=hU.c;have h4:=hU.e;have h5:m*1<=m*(n / m):=Nat.mul_le_mul_left _ hU.hn;have h6:=hU.dv;omega
  have bH:ea.natAbs<=1728/\eb.natAbs<=13121/\ec.natAbs<=216/\ed.natAbs<=1640:=by omega
  have zW:(A*ea+B*ec).natAbs<=1300000:=by
   have h1:=Gb bG.1 bH.1;have h2:=Gb bG.2.1 bH.2.2.1;omega
  have zX:(A*eb+B*ed).natAbs<=1300000:=by
   have h1:=Gb bG.1 bH.2.1;have h2:=Gb bG.2.1 bH.2.2.2;omega
  have zY:(C0*ea+E*ec).natAbs<=1300000:=by
   have h1:=Gb bG.2.2.1 bH.1;have h2:=Gb bG.2.2.2 bH.2.2.1;omega
  have zZ:(C0*eb+E*ed).natAbs<=1300000:=by
   have h1:=Gb bG.2.2.1 bH.2.1;have h2:=Gb bG.2.2.2 bH.2.2.2;omega
  have dX:(A*ea+B*ec)*(C0*eb+E*ed) - (A*eb+B*ed)*(C0*ea+E*ec)≠0:=by
   have h1:(A*ea+B*ec)*(C0*eb+E*ed) - (A*eb+B*ed)*(C0*ea+E*ec)=(A*E - B*C0)*(ea*ed - eb*ec):=by grind
   rw[h1,hG.det,Int.mul_one];exact hU.det0
  have cX:∀kk,kk<R->clG n wt 1 (λj=>X j (F.getD kk 0)) (A*ea+B*ec) (A*eb+B*ed) (C0*ea+E*ec) (C0*eb+E*ed) (F8 xa la) (x1,x2) (y1,y2)=Dt V RM R kk:=λkk hk=>by
   rw[fX uL.1 (vC.1 _ (Bd (by rw[qZ.1];exact hk))) hU hG (F8 xa la) (Qv qI) (Qv qJ)];exact(tW.1 kk hk qI qJ).symm
  obtain⟨vN,vO,vR,vS,yV,yX,B1,bbX,tX⟩:=dK vX.1 mD.1.2.2 zW zX zY zZ dX qI qJ (show x1.natAbs<=400 by omega) (show x2.natAbs<=400 by omega) (show y1.natAbs<=400 by omega) (show y2.natAbs<=400 by omega);have sX:=λj=>Wh (xa:=xa) (la:=la) (wt:=wt) (a:=A*ea+B*ec) (b:=A*eb+B*ed) (c:=C0*ea+E*ec) (d:=C0*eb+E*ed) vX.1 mD.1.2.2 (by omega) (by omega) (by omega) (by omega) j
  have pX:=λW=>Pf A B C0 E ea eb ec ed W (by omega) (by omega) (by omega) (by omega) (by omega) (by omega) (by omega) (by omega)
  obtain⟨X0,H0⟩:∃z,A*ea+B*ec=z:=⟨_,rfl⟩
  obtain⟨X1,H2⟩:∃z,A*eb+B*ed=z:=⟨_,rfl⟩
  obtain⟨X2,H3⟩:∃z,C0*ea+E*ec=z:=⟨_,rfl⟩
  obtain⟨X3,H4⟩:∃z,C0*eb+E*ed=z:=⟨_,rfl⟩
  rw[H0,H2,H3,H4]at cX tX sX pX yV yX;unfold clG at cX;rw[yV,yX]at cX;obtain⟨GX,F3⟩:∃G:Nat->Rat,subst (F8 xa la) wt X3 (-X1) (-X2) X0 (wt+1)=G:=⟨_,rfl⟩
  rw[F3]at cX tX sX;have uM:=Kh cX;have uJ:=Kh B1;have vD:=Kh tX;have vA:=Kh pX;have uO:=Kh (λW (hb:Below w.heap.size w W) (hm:ModR W M n wt 1 F C X) vq yT=>Gv (HT.1.below hb) hm vq GX vN vO vR vS yT (λj _=>sX j) (by omega) (by omega) (by omega) (by omega) (by omega) (by omega) (by omega) (by omega));clear cX B1 bbX tX pX sX yV yX zW zX zY zZ dX H0 H2 H3 H4 F3;rw[yB.1]at vD uO
  have A0:(ea*A+eb*C0).natAbs<=1300000:=by
   have h1:=Gb bH.1 bG.1;have h2:=Gb bH.2.1 bG.2.2.1;omega
  have A1:(ea*B+eb*E).natAbs<=1300000:=by
   have h1:=Gb bH.1 bG.2.1;have h2:=Gb bH.2.1 bG.2.2.2;omega
  have A2:(ec*A+ed*C0).natAbs<=1300000:=by
   have h1:=Gb bH.2.2.1 bG.1;have h2:=Gb bH.2.2.2 bG.2.2.1;omega
  have B0:(ec*B+ed*E).natAbs<=1300000:=by
   have h1:=Gb bH.2.2.1 bG.2.1;have h2:=Gb bH.2.2.2 bG.2.2.2;omega
  have dY:(ea*A+eb*C0)*(ec*B+ed*E) - (ea*B+eb*E)*(ec*A+ed*C0)≠0:=by
   have h1:(ea*A+eb*C0)*(ec*B+ed*E) - (ea*B+eb*E)*(ec*A+ed*C0)=(A*E - B*C0)*(ea*ed - eb*ec):=by grind
   rw[h1,hG.det,Int.mul_one];exact hU.det0
  have cY:∀kk,kk<R->clG n wt 1 (λj=>X j (F.getD kk 0)) (ea*A+eb*C0) (ea*B+eb*E) (ec*A+ed*C0) (ec*B+ed*E) (F8 xa la) (x1,x2) (y1,y2)=Dt V RM R kk:=λkk hk=>by
   rw[kU uL.1 (vC.1 _ (Bd (by rw[qZ.1];exact hk))) hU.det0 hG (F8 xa la) (Qv qI) (Qv qJ)];exact(tW.1 kk hk qI qJ).symm
  obtain⟨vP,vQ,vT,vU,yW,yY,B2,bbY,tY⟩:=dK vX.1 mD.1.2.2 A0 A1 A2 B0 dY qI qJ (show x1.natAbs<=400 by omega) (show x2.natAbs<=400 by omega) (show y1.natAbs<=400 by omega) (show y2.natAbs<=400 by omega);have sY:=λj=>Wh (xa:=xa) (la:=la) (wt:=wt) (a:=ea*A+eb*C0) (b:=ea*B+eb*E) (c:=ec*A+ed*C0) (d:=ec*B+ed*E) vX.1 mD.1.2.2 (by omega) (by omega) (by omega) (by omega) j
  have pY:=λW=>Pf ea eb ec ed A B C0 E W (by omega) (by omega) (by omega) (by omega) (by omega) (by omega) (by omega) (by omega)
  obtain⟨Y0,H5⟩:∃z,ea*A+eb*C0=z:=⟨_,rfl⟩
  obtain⟨Y1,H6⟩:∃z,ea*B+eb*E=z:=⟨_,rfl⟩
  obtain⟨Y2,K1⟩:∃z,ec*A+ed*C0=z:=⟨_,rfl⟩
  obtain⟨Y3,K2⟩:∃z,ec*B+ed*E=z:=⟨_,rfl⟩
  rw[H5,H6,K1,K2]at cY tY sY pY yW yY;unfold clG at cY;rw[yW,yY]at cY;obtain⟨GY,G4⟩:∃G:Nat->Rat,subst (F8 xa la) wt Y3 (-Y1) (-Y2) Y0 (wt+1)=G:=⟨_,rfl⟩
  rw[G4]at cY tY sY;have uN:=Kh cY;have uK:=Kh B2;have vE:=Kh tY;have vB:=Kh pY;have uP:=Kh (λW (hb:Below w.heap.size w W) (hm:ModR W M n wt 1 F C X) vq yT=>Gv (HT.1.below hb) hm vq GY vP vQ vT vU yT (λj _=>sY j) (by omega) (by omega) (by omega) (by omega) (by omega) (by omega) (by omega) (by omega));clear cY B2 bbY tY pY sY yW yY A0 A1 A2 B0 dY H5 H6 K1 K2 G4;rw[yB.1]at vE uP;clear tV yR hV yN hcb hyx hyy hU Q2 bG bH hG rA rB rC rE tW tM vC qI qJ;go_upto_region 14 with(fail)
  obtain⟨wA,U1⟩:∃x,w9.alloc (.cells #[.int .i64 ea,.int .i64 eb,.int .i64 ec,.int .i64 ed] 63)=x:=⟨_,rfl⟩
  obtain⟨wJ,gL⟩:=Gs w9 #[.int .i64 ea,.int .i64 eb,.int .i64 ec,.int .i64 ed] 63;rw[U1]at wJ gL ⊢;obtain⟨gh,xR⟩:∃x,w9.heap.size=x:=⟨_,rfl⟩
  rw[xR]at wJ ⊢;have xI:=Kh wJ;clear U1 wJ xR;have pV:=Kh (bk pU gL);have oC:=Kh (bk oB gL);have hE:=Kh (bk pB gL);have pM:=Kh (bk pL gL);have oM:=Kh (bk oL gL);have qV:=Kh (uW.1.keep gL);have mZ:=Kh (sE.1.keep (λ_=>IsQ.solid _) gL);have rT:=Kh (rS.1.keep (λ_=>IsQ.solid _) gL);have nC:=Kh (sS.1.keep (λ_=>IsQ.solid _) gL);have uC:=bt gU gL;clear pU oB pB pL oL uW sE rS sS gU gL;have oR:=xI;clear xI;have vI:R<=72:=by have:=qV.1.len;rw[qZ.1]at this;exact this
  have tT:=Od R R v1 c1 V RM (.slice (some ⟨gv,0,none⟩) R R) wA (by rw[zN.1];exact mZ.1) (nC.1.ql R) vI (by omega) HSV.1 HST.1;rw[zN.1]at tT;have zB:=Kh tT;have xF:=Kh vI;clear tT vI;have gm0:=hE.1.at_ 0 rfl;have gm1:=hE.1.at_ 1 rfl;have gm2:=hE.1.at_ 2 rfl;go_wp2_with fail
  refine zB.1.mono ?_;rintro e wB ⟨⟨gz,rfl,_,S2⟩,hZ⟩;clear zB;clear gm0 gm1 gm2;have pW:=Kh (bk pV hZ);have oD:=Kh (bk oC hZ);have pC:=Kh (bk hE hZ);have cA:=Kh (bk pM hZ);have cT:=Kh (bk oM hZ);have dE:=Kh (bk oR hZ);have uX:=Kh (qV.1.keep hZ);have sF:=Kh (mZ.1.keep (λ_=>IsQ.solid _) hZ);have mX:=Kh (rT.1.keep (λ_=>IsQ.solid _) hZ);have sT:=Kh (nC.1.keep (λ_=>IsQ.solid _) hZ);have uD:=bt uC hZ;clear pV oC hE pM oM oR qV mZ rT nC uC hZ;have tE:=Kh S2;clear S2;have nJ:=cA.1.at_ 0 rfl;have nK:=cA.1.at_ 1 rfl;have nL:=cA.1.at_ 2 rfl;have nM:=cA.1.at_ 3 rfl;have nN:=cA.1.at_ 4 rfl;have rD:=cT.1.at_ 0 rfl;have rF:=cT.1.at_ 1 rfl;have rG:=cT.1.at_ 2 rfl;have rH:=cT.1.at_ 3 rfl;have rI:=dE.1.at_ 0 rfl;have rJ:=dE.1.at_ 1 rfl;have rK:=dE.1.at_ 2 rfl;have rL:=dE.1.at_ 3 rfl;have nH:=Kh (λW (hb:Below wB.heap.size wB W)=>vD.1 W (.slice p5 L1 vH) (mX.1.keep (λ_=>IsQ.solid _) hb));go_upto_region 15 with(fail)
  go_cut [20,21]from 141 to 147 (λva vb wx=>∃g p8 c8,va=.pointer (some ⟨g,0,none⟩)/\vb=.int .i64 0/\Blk wx g 57 #[.slice p8 L1 c8,.int .i64 vN,.int .i64 vO,.int .i64 vR,.int .i64 vS]/\QL (λj=>IsQ (GX j)) wx (.slice p8 L1 c8) L1/\Below wB.heap.size wB wx)
  case first=>
   refine iW [7,10] (λW=>W.cell? ⟨gp,0,none⟩=some (.slice p5 L1 vH)/\W.cell? ⟨gp,1,none⟩=some (.int .i64 x1)/\W.cell? ⟨gp,2,none⟩=some (.int .i64 x2)/\W.cell? ⟨gp,3,none⟩=some (.int .i64 y1)/\W.cell? ⟨gp,4,none⟩=some (.int .i64 y2)/\W.cell? ⟨gg,0,none⟩=some (.int .i64 A)/\W.cell? ⟨gg,1,none⟩=some (.int .i64 B)/\W.cell? ⟨gg,2,none⟩=some (.int .i64 C0)/\W.cell? ⟨gg,3,none⟩=some (.int .i64 E)/\W.cell? ⟨gh,0,none⟩=some (.int .i64 ea)/\W.cell? ⟨gh,1,none⟩=some (.int .i64 eb)/\W.cell? ⟨gh,2,none⟩=some (.int .i64 ec)/\W.cell? ⟨gh,3,none⟩=some (.int .i64 ed)) (λW hb=>⟨Au hb nJ,Au hb nK,Au hb nL,Au hb nM,Au hb nN,Au hb rD,Au hb rF,Au hb rG,Au hb rH,Au hb rI,Au hb rJ,Au hb rK,Au hb rL⟩) (λcD hHeld0=>?_);clear nJ nK nL nM nN rD rF rG rH rI rJ rK rL;refine De 0 ?_;refine De 1 ?_;refine De 2 ?_;refine iN 3 8 rfl rfl (λK hK=>?_) (λK hK=>?_)
   ·focus(go_simp;refine(vA.1 _).mono ?_;rintro e w7 ⟨rfl,Z⟩;have O:=Kh (((Below.refl wB.heap.size wB).drew).trans (Z.mono ((Below.refl wB.heap.size wB).drew).size):Below wB.heap.size wB w7);clear Z;(first|with_reducible refine hK.out _ _ ?_ (λhHeld1=>?_) |(go_wp2_with fail;with_reducible refine hK.out _ _ ?_ (λhHeld1=>?_))))
    focus((try dsimp only);exact cD.1 _ O.1)
    focus(clear hK K;(try simp only[Act.put,Br,Bt,Bs]))
    refine iN 4 8 rfl rfl (λK hK=>?_) (λK hK=>?_)
    ·focus(go_simp;refine(nH.1 _ O.1).mono ?_;rintro e w8 ⟨⟨g8,c8,rfl,cF,hL⟩,Y⟩;have aN:=Kh ((O.1).trans (Y.mono (O.1).size):Below wB.heap.size wB w8);have mE:=Kh hL;have uR:=Kh cF;clear hL Y cF;(first|with_reducible refine hK.out _ _ ?_ (λhHeld2=>?_) |(go_wp2_with fail;with_reducible refine hK.out _ _ ?_ (λhHeld2=>?_))))
     focus((try dsimp only);exact cD.1 _ aN.1)
     focus(clear hK K;(try simp only[Act.put,Br,Bt,Bs]))
     refine De 5 ?_;refine De 6 ?_;refine kL 7 ?_;refine iY 8 rfl (λK hK=>?_);focus(go_simp;refine hK.out _ _ ?_ (λhHeld3=>?_))
     focus((try dsimp only);exact cD.1 _ (aN.1.alloc aN.1.size _))
     focus(clear hK K;(try simp only[Act.put,Br,Bt,Bs]))
     refine iX 9 rfl (λK hK=>?_);go_simp
     refine hK.out _ _ ?_;clear hK K
     (try simp only[Act.put,Br,Bt,Bs])
     refine jA 10 ?_;refine iT ?_;go_wp2;go_meet
     exact⟨w8.heap.size,some ⟨g8,0,none⟩,c8,rfl,rfl,Blk.new w8 57 #[.slice (some ⟨g8,0,none⟩) L1 c8,.int .i64 vN,.int .i64 vO,.int .i64 vR,.int .i64 vS],mE.1.keep (λ_=>IsQ.solid _) ((Below.refl _ _).alloc (mG _) _),aN.1.alloc aN.1.size _⟩
    ·focus(go_simp;refine hK.out _ _ ?_ (λhHeld2=>?_))
     focus((try dsimp only);exact cD.1 _ (O.1.alloc O.1.size _))
     focus(clear hK K;(try simp only[Act.put,Br,Bt,Bs]))
     refine iY 4 rfl (λK hK=>?_);focus(go_simp;refine(nH.1 _ (O.1.alloc O.1.size (.cells #[.slice none 0 0,.int .i64 0,.int .i64 0,.int .i64 0,.int .i64 0] 57))).mono ?_;rintro e w8 ⟨⟨g8,c8,rfl,cF,hL⟩,Y⟩;have aN:=Kh (((O.1.alloc O.1.size (.cells #[.slice none 0 0,.int .i64 0,.int .i64 0,.int .i64 0,.int .i64 0] 57))).trans (Y.mono ((O.1.alloc O.1.size (.cells #[.slice none 0 0,.int .i64 0,.int .i64 0,.int .i64 0,.int .i64 0] 57))).size):Below wB.heap.size wB w8);have mE:=Kh hL;have uR:=Kh cF;have I:=Kh (show Blk w8 w7.heap.size 57 #[.slice none 0 0,.int .i64 0,.int .i64 0,.int .i64 0,.int .i64 0]from(Blk.new w7 57 #[.slice none 0 0,.int .i64 0,.int .i64 0,.int .i64 0,.int .i64 0]).below_ Y (by simp));have qT:=Kh (show w7.heap.size<g8 by have h9:=cF;simp at h9;omega);have qS:=Kh (show wB.heap.size<=w7.heap.size from O.1.size);clear hL Y cF;(first|with_reducible refine hK.out _ _ ?_ (λhHeld3=>?_) |(go_wp2_with fail;with_reducible refine hK.out _ _ ?_ (λhHeld3=>?_))))
     focus((try dsimp only);exact cD.1 _ aN.1)
     focus(clear hK K;(try simp only[Act.put,Br,Bt,Bs]))
     refine De 5 ?_;refine De 6 ?_;refine kL 7 ?_;have n0:=I.1.at_ 0 rfl;have n1:=I.1.at_ 1 rfl;have n2:=I.1.at_ 2 rfl;have n3:=I.1.at_ 3 rfl;have n4:=I.1.at_ 4 rfl;have wY:=I.1.free_ 0;have wZ:=I.1.free_ 1;have xA:=I.1.free_ 2;have xB:=I.1.free_ 3;have xC:=I.1.free_ 4;refine iX 9 rfl (λK hK=>?_);go_simp
     refine hK.out _ _ ?_;clear hK K
     (try simp only[Act.put,Br,Bt,Bs])
     refine jA 10 ?_;refine iT ?_;go_wp2;go_meet
     obtain⟨f1,f2,f3⟩:=J0 (i:=vN) (j:=vO) (k:=vR) (l:=vS) (B:=wB.heap.size) rfl I.1 mE.1 (λe he h=>by injection he with he;rw[<-he]at h;have h8:=qT.1;have h9:g8=w7.heap.size:=h;omega) qS.1 aN.1;exact⟨w7.heap.size,some ⟨g8,0,none⟩,c8,rfl,rfl,f1,f2,f3⟩
   ·focus(go_simp;refine hK.out _ _ ?_ (λhHeld1=>?_))
    focus((try dsimp only);exact cD.1 _ ((Below.refl wB.heap.size wB).drew.alloc (mG _) (.cells #[.slice none 0 0,.int .i64 0,.int .i64 0,.int .i64 0,.int .i64 0] 57)))
    focus(clear hK K;(try simp only[Act.put,Br,Bt,Bs]))
    refine iY 3 rfl (λK hK=>?_);focus(go_simp;refine(vA.1 _).mono ?_;rintro e w7 ⟨rfl,Z⟩;have O:=Kh ((((Below.refl wB.heap.size wB).drew.alloc (mG _) (.cells #[.slice none 0 0,.int .i64 0,.int .i64 0,.int .i64 0,.int .i64 0] 57))).trans (Z.mono (((Below.refl wB.heap.size wB).drew.alloc (mG _) (.cells #[.slice none 0 0,.int .i64 0,.int .i64 0,.int .i64 0,.int .i64 0] 57))).size):Below wB.heap.size wB w7);have vF:=Kh (show Blk w7 wB.heap.size 57 #[.slice none 0 0,.int .i64 0,.int .i64 0,.int .i64 0,.int .i64 0]from(Blk.new wB.drew 57 #[.slice none 0 0,.int .i64 0,.int .i64 0,.int .i64 0,.int .i64 0]).below_ Z (by simp));have yC:=Kh (show wB.heap.size<w7.heap.size from vF.1.lt);clear Z;(first|with_reducible refine hK.out _ _ ?_ (λhHeld2=>?_) |(go_wp2_with fail;with_reducible refine hK.out _ _ ?_ (λhHeld2=>?_))))
    focus((try dsimp only);exact cD.1 _ O.1)
    focus(clear hK K;(try simp only[Act.put,Br,Bt,Bs]))
    refine iY 4 rfl (λK hK=>?_);focus(go_simp;refine(nH.1 _ O.1).mono ?_;rintro e w8 ⟨⟨g8,c8,rfl,cF,hL⟩,Y⟩;have aN:=Kh ((O.1).trans (Y.mono (O.1).size):Below wB.heap.size wB w8);have mE:=Kh hL;have uR:=Kh cF;have I:=Kh (bk vF Y);have qT:=Kh (show wB.heap.size<g8 from mI yC.1 cF);have qS:=Kh (mG wB.heap.size);clear hL Y cF;(first|with_reducible refine hK.out _ _ ?_ (λhHeld3=>?_) |(go_wp2_with fail;with_reducible refine hK.out _ _ ?_ (λhHeld3=>?_))))
    focus((try dsimp only);exact cD.1 _ aN.1)
    focus(clear hK K;(try simp only[Act.put,Br,Bt,Bs]))
    refine De 5 ?_;refine De 6 ?_;refine kL 7 ?_;have n0:=I.1.at_ 0 rfl;have n1:=I.1.at_ 1 rfl;have n2:=I.1.at_ 2 rfl;have n3:=I.1.at_ 3 rfl;have n4:=I.1.at_ 4 rfl;have wY:=I.1.free_ 0;have wZ:=I.1.free_ 1;have xA:=I.1.free_ 2;have xB:=I.1.free_ 3;have xC:=I.1.free_ 4;refine iX 9 rfl (λK hK=>?_);go_simp
    refine hK.out _ _ ?_;clear hK K
    (try simp only[Act.put,Br,Bt,Bs])
    refine jA 10 ?_;refine iT ?_;go_wp2;go_meet
    obtain⟨f1,f2,f3⟩:=J0 (i:=vN) (j:=vO) (k:=vR) (l:=vS) (B:=wB.heap.size) rfl I.1 mE.1 (λe he h=>by injection he with he;rw[<-he]at h;have h8:=qT.1;have h9:g8=wB.heap.size:=h;omega) qS.1 aN.1;exact⟨wB.heap.size,some ⟨g8,0,none⟩,c8,rfl,rfl,f1,f2,f3⟩
  obtain⟨gX,pX,cX,rfl,rfl,XQ,qM,U⟩:=hcut;obtain⟨wC,rfl⟩:∃x:World,x=wc:=⟨_,rfl⟩
  clear nH vD vA;clear nJ nK nL nM nN rD rF rG rH rI rJ rK rL;have pZ:=Kh (bk pW U);have oE:=Kh (bk oD U);have pD:=Kh (bk pC U);have cB:=Kh (bk cA U);have dC:=Kh (bk cT U);have eP:=Kh (bk dE U);have uY:=Kh (uX.1.keep U);have sG:=Kh (sF.1.keep (λ_=>IsQ.solid _) U);have mY:=Kh (mX.1.keep (λ_=>IsQ.solid _) U);have sU:=Kh (sT.1.keep (λ_=>IsQ.solid _) U);have tF:=Kh (tE.1.keep (λ_=>IsQ.solid _) U);have uE:=bt uD U;clear pW oD pC cA cT dE uX sF mX sT tE uD U;have nQ:=Kh XQ;have sL:=Kh qM;clear XQ qM;have nJ:=cB.1.at_ 0 rfl;have nK:=cB.1.at_ 1 rfl;have nL:=cB.1.at_ 2 rfl;have nM:=cB.1.at_ 3 rfl;have nN:=cB.1.at_ 4 rfl;have rD:=dC.1.at_ 0 rfl;have rF:=dC.1.at_ 1 rfl;have rG:=dC.1.at_ 2 rfl;have rH:=dC.1.at_ 3 rfl;have rI:=eP.1.at_ 0 rfl;have rJ:=eP.1.at_ 1 rfl;have rK:=eP.1.at_ 2 rfl;have rL:=eP.1.at_ 3 rfl;have nH:=Kh (λW (hb:Below wC.heap.size wC W)=>vE.1 W (.slice p5 L1 vH) (mY.1.keep (λ_=>IsQ.solid _) hb));go_upto_region 16 with(fail)
  go_cut [22,23]from 149 to 155 (λva vb wx=>∃g p8 c8,va=.pointer (some ⟨g,0,none⟩)/\vb=.int .i64 0/\Blk wx g 57 #[.slice p8 L1 c8,.int .i64 vP,.int .i64 vQ,.int .i64 vT,.int .i64 vU]/\QL (λj=>IsQ (GY j)) wx (.slice p8 L1 c8) L1/\Below wC.heap.size wC wx)
  case first=>
   refine iW [7,10] (λW=>W.cell? ⟨gp,0,none⟩=some (.slice p5 L1 vH)/\W.cell? ⟨gp,1,none⟩=some (.int .i64 x1)/\W.cell? ⟨gp,2,none⟩=some (.int .i64 x2)/\W.cell? ⟨gp,3,none⟩=some (.int .i64 y1)/\W.cell? ⟨gp,4,none⟩=some (.int .i64 y2)/\W.cell? ⟨gg,0,none⟩=some (.int .i64 A)/\W.cell? ⟨gg,1,none⟩=some (.int .i64 B)/\W.cell? ⟨gg,2,none⟩=some (.int .i64 C0)/\W.cell? ⟨gg,3,none⟩=some (.int .i64 E)/\W.cell? ⟨gh,0,none⟩=some (.int .i64 ea)/\W.cell? ⟨gh,1,none⟩=some (.int .i64 eb)/\W.cell? ⟨gh,2,none⟩=some (.int .i64 ec)/\W.cell? ⟨gh,3,none⟩=some (.int .i64 ed)) (λW hb=>⟨Au hb nJ,Au hb nK,Au hb nL,Au hb nM,Au hb nN,Au hb rD,Au hb rF,Au hb rG,Au hb rH,Au hb rI,Au hb rJ,Au hb rK,Au hb rL⟩) (λcD hHeld0=>?_);clear nJ nK nL nM nN rD rF rG rH rI rJ rK rL;refine De 0 ?_;refine De 1 ?_;refine De 2 ?_;refine iN 3 8 rfl rfl (λK hK=>?_) (λK hK=>?_)
   ·focus(go_simp;refine(vB.1 _).mono ?_;rintro e w7 ⟨rfl,Z⟩;have O:=Kh (((Below.refl wC.heap.size wC).drew).trans (Z.mono ((Below.refl wC.heap.size wC).drew).size):Below wC.heap.size wC w7);clear Z;(first|with_reducible refine hK.out _ _ ?_ (λhHeld1=>?_) |(go_wp2_with fail;with_reducible refine hK.out _ _ ?_ (λhHeld1=>?_))))
    focus((try dsimp only);exact cD.1 _ O.1)
    focus(clear hK K;(try simp only[Act.put,Br,Bt,Bs]))
    refine iN 4 8 rfl rfl (λK hK=>?_) (λK hK=>?_)
    ·focus(go_simp;refine(nH.1 _ O.1).mono ?_;rintro e w8 ⟨⟨g8,c8,rfl,cF,hL⟩,Y⟩;have aN:=Kh ((O.1).trans (Y.mono (O.1).size):Below wC.heap.size wC w8);have mE:=Kh hL;have uR:=Kh cF;clear hL Y cF;(first|with_reducible refine hK.out _ _ ?_ (λhHeld2=>?_) |(go_wp2_with fail;with_reducible refine hK.out _ _ ?_ (λhHeld2=>?_))))
     focus((try dsimp only);exact cD.1 _ aN.1)
     focus(clear hK K;(try simp only[Act.put,Br,Bt,Bs]))
     refine De 5 ?_;refine De 6 ?_;refine kL 7 ?_;refine iY 8 rfl (λK hK=>?_);focus(go_simp;refine hK.out _ _ ?_ (λhHeld3=>?_))
     focus((try dsimp only);exact cD.1 _ (aN.1.alloc aN.1.size _))
     focus(clear hK K;(try simp only[Act.put,Br,Bt,Bs]))
     refine iX 9 rfl (λK hK=>?_);go_simp
     refine hK.out _ _ ?_;clear hK K
     (try simp only[Act.put,Br,Bt,Bs])
     refine jA 10 ?_;refine iT ?_;go_wp2;go_meet
     exact⟨w8.heap.size,some ⟨g8,0,none⟩,c8,rfl,rfl,Blk.new w8 57 #[.slice (some ⟨g8,0,none⟩) L1 c8,.int .i64 vP,.int .i64 vQ,.int .i64 vT,.int .i64 vU],mE.1.keep (λ_=>IsQ.solid _) ((Below.refl _ _).alloc (mG _) _),aN.1.alloc aN.1.size _⟩
    ·focus(go_simp;refine hK.out _ _ ?_ (λhHeld2=>?_))
     focus((try dsimp only);exact cD.1 _ (O.1.alloc O.1.size _))
     focus(clear hK K;(try simp only[Act.put,Br,Bt,Bs]))
     refine iY 4 rfl (λK hK=>?_);focus(go_simp;refine(nH.1 _ (O.1.alloc O.1.size (.cells #[.slice none 0 0,.int .i64 0,.int .i64 0,.int .i64 0,.int .i64 0] 57))).mono ?_;rintro e w8 ⟨⟨g8,c8,rfl,cF,hL⟩,Y⟩;have aN:=Kh (((O.1.alloc O.1.size (.cells #[.slice none 0 0,.int .i64 0,.int .i64 0,.int .i64 0,.int .i64 0] 57))).trans (Y.mono ((O.1.alloc O.1.size (.cells #[.slice none 0 0,.int .i64 0,.int .i64 0,.int .i64 0,.int .i64 0] 57))).size):Below wC.heap.size wC w8);have mE:=Kh hL;have uR:=Kh cF;have I:=Kh (show Blk w8 w7.heap.size 57 #[.slice none 0 0,.int .i64 0,.int .i64 0,.int .i64 0,.int .i64 0]from(Blk.new w7 57 #[.slice none 0 0,.int .i64 0,.int .i64 0,.int .i64 0,.int .i64 0]).below_ Y (by simp));have qT:=Kh (show w7.heap.size<g8 by have h9:=cF;simp at h9;omega);have qS:=Kh (show wC.heap.size<=w7.heap.size from O.1.size);clear hL Y cF;(first|with_reducible refine hK.out _ _ ?_ (λhHeld3=>?_) |(go_wp2_with fail;with_reducible refine hK.out _ _ ?_ (λhHeld3=>?_))))
     focus((try dsimp only);exact cD.1 _ aN.1)
     focus(clear hK K;(try simp only[Act.put,Br,Bt,Bs]))
     refine De 5 ?_;refine De 6 ?_;refine kL 7 ?_;have n0:=I.1.at_ 0 rfl;have n1:=I.1.at_ 1 rfl;have n2:=I.1.at_ 2 rfl;have n3:=I.1.at_ 3 rfl;have n4:=I.1.at_ 4 rfl;have wY:=I.1.free_ 0;have wZ:=I.1.free_ 1;have xA:=I.1.free_ 2;have xB:=I.1.free_ 3;have xC:=I.1.free_ 4;refine iX 9 rfl (λK hK=>?_);go_simp
     refine hK.out _ _ ?_;clear hK K
     (try simp only[Act.put,Br,Bt,Bs])
     refine jA 10 ?_;refine iT ?_;go_wp2;go_meet
     obtain⟨f1,f2,f3⟩:=J0 (i:=vP) (j:=vQ) (k:=vT) (l:=vU) (B:=wC.heap.size) rfl I.1 mE.1 (λe he h=>by injection he with he;rw[<-he]at h;have h8:=qT.1;have h9:g8=w7.heap.size:=h;omega) qS.1 aN.1;exact⟨w7.heap.size,some ⟨g8,0,none⟩,c8,rfl,rfl,f1,f2,f3⟩
   ·focus(go_simp;refine hK.out _ _ ?_ (λhHeld1=>?_))
    focus((try dsimp only);exact cD.1 _ ((Below.refl wC.heap.size wC).drew.alloc (mG _) (.cells #[.slice none 0 0,.int .i64 0,.int .i64 0,.int .i64 0,.int .i64 0] 57)))
    focus(clear hK K;(try simp only[Act.put,Br,Bt,Bs]))
    refine iY 3 rfl (λK hK=>?_);focus(go_simp;refine(vB.1 _).mono ?_;rintro e w7 ⟨rfl,Z⟩;have O:=Kh ((((Below.refl wC.heap.size wC).drew.alloc (mG _) (.cells #[.slice none 0 0,.int .i64 0,.int .i64 0,.int .i64 0,.int .i64 0] 57))).trans (Z.mono (((Below.refl wC.heap.size wC).drew.alloc (mG _) (.cells #[.slice none 0 0,.int .i64 0,.int .i64 0,.int .i64 0,.int .i64 0] 57))).size):Below wC.heap.size wC w7);have vF:=Kh (show Blk w7 wC.heap.size 57 #[.slice none 0 0,.int .i64 0,.int .i64 0,.int .i64 0,.int .i64 0]from(Blk.new wC.drew 57 #[.slice none 0 0,.int .i64 0,.int .i64 0,.int .i64 0,.int .i64 0]).below_ Z (by simp));have yC:=Kh (show wC.heap.size<w7.heap.size from vF.1.lt);clear Z;(first|with_reducible refine hK.out _ _ ?_ (λhHeld2=>?_) |(go_wp2_with fail;with_reducible refine hK.out _ _ ?_ (λhHeld2=>?_))))
    focus((try dsimp only);exact cD.1 _ O.1)
    focus(clear hK K;(try simp only[Act.put,Br,Bt,Bs]))
    refine iY 4 rfl (λK hK=>?_);focus(go_simp;refine(nH.1 _ O.1).mono ?_;rintro e w8 ⟨⟨g8,c8,rfl,cF,hL⟩,Y⟩;have aN:=Kh ((O.1).trans (Y.mono (O.1).size):Below wC.heap.size wC w8);have mE:=Kh hL;have uR:=Kh cF;have I:=Kh (bk vF Y);have qT:=Kh (show wC.heap.size<g8 from mI yC.1 cF);have qS:=Kh (mG wC.heap.size);clear hL Y cF;(first|with_reducible refine hK.out _ _ ?_ (λhHeld3=>?_) |(go_wp2_with fail;with_reducible refine hK.out _ _ ?_ (λhHeld3=>?_))))
    focus((try dsimp only);exact cD.1 _ aN.1)
    focus(clear hK K;(try simp only[Act.put,Br,Bt,Bs]))
    refine De 5 ?_;refine De 6 ?_;refine kL 7 ?_;have n0:=I.1.at_ 0 rfl;have n1:=I.1.at_ 1 rfl;have n2:=I.1.at_ 2 rfl;have n3:=I.1.at_ 3 rfl;have n4:=I.1.at_ 4 rfl;have wY:=I.1.free_ 0;have wZ:=I.1.free_ 1;have xA:=I.1.free_ 2;have xB:=I.1.free_ 3;have xC:=I.1.free_ 4;refine iX 9 rfl (λK hK=>?_);go_simp
    refine hK.out _ _ ?_;clear hK K
    (try simp only[Act.put,Br,Bt,Bs])
    refine jA 10 ?_;refine iT ?_;go_wp2;go_meet
    obtain⟨f1,f2,f3⟩:=J0 (i:=vP) (j:=vQ) (k:=vT) (l:=vU) (B:=wC.heap.size) rfl I.1 mE.1 (λe he h=>by injection he with he;rw[<-he]at h;have h8:=qT.1;have h9:g8=wC.heap.size:=h;omega) qS.1 aN.1;exact⟨wC.heap.size,some ⟨g8,0,none⟩,c8,rfl,rfl,f1,f2,f3⟩
  obtain⟨gY,pY,cY,rfl,rfl,XQ,qM,U⟩:=hcut;obtain⟨wD,rfl⟩:∃x:World,x=wc:=⟨_,rfl⟩
  clear nH vE vB;clear nJ nK nL nM nN rD rF rG rH rI rJ rK rL;have qA:=Kh (bk pZ U);have oF:=Kh (bk oE U);have pE:=Kh (bk pD U);have pN:=Kh (bk cB U);have oN:=Kh (bk dC U);have oS:=Kh (bk eP U);have aX:=Kh (bk nQ U);have qW:=Kh (uY.1.keep U);have sH:=Kh (sG.1.keep (λ_=>IsQ.solid _) U);have rU:=Kh (mY.1.keep (λ_=>IsQ.solid _) U);have sV:=Kh (sU.1.keep (λ_=>IsQ.solid _) U);have tG:=Kh (tF.1.keep (λ_=>IsQ.solid _) U);have nA:=Kh (sL.1.keep (λ_=>IsQ.solid _) U);have qQ:=bt uE U;clear pZ oE pD cB dC eP nQ uY sG mY sU tF sL uE U;have nU:=Kh XQ;have sP:=Kh qM;clear XQ qM;have uQ:=Kh (uO.1 wD qQ.1 qW.1 (.slice pX L1 cX) nA.1);clear uO;have gX0:=aX.1.at_ 0 rfl;have gX1:=aX.1.at_ 1 rfl;have gX2:=aX.1.at_ 2 rfl;have gX3:=aX.1.at_ 3 rfl;have gX4:=aX.1.at_ 4 rfl;go_wp2_with fail
  refine uQ.1.mono ?_;rintro e wE ⟨vK,J⟩
  obtain⟨_,E0,rfl,_,rN,rO⟩:=vK.resolve_left (λh=>by
   rcases h.1 with h1|h1
   ·exact h1 uJ.1.1
   ·exact h1 uJ.1.2)
  rw[qZ.1]at rN rO ⊢;clear uQ vK;clear gX0 gX1 gX2 gX3 gX4;have qB:=Kh (bk qA J);have oG:=Kh (bk oF J);have pF:=Kh (bk pE J);have pO:=Kh (bk pN J);have oO:=Kh (bk oN J);have oT:=Kh (bk oS J);have nR:=Kh (bk aX J);have bC:=Kh (bk nU J);have qX:=Kh (qW.1.keep J);have sI:=Kh (sH.1.keep (λ_=>IsQ.solid _) J);have rV:=Kh (rU.1.keep (λ_=>IsQ.solid _) J);have sW:=Kh (sV.1.keep (λ_=>IsQ.solid _) J);have tH:=Kh (tG.1.keep (λ_=>IsQ.solid _) J);have sM:=Kh (nA.1.keep (λ_=>IsQ.solid _) J);have nB:=Kh (sP.1.keep (λ_=>IsQ.solid _) J);have qR:=bt qQ J;clear qA oF pE pN oN oS aX nU qW sH rU sV tG nA sP qQ J;have tB:=Kh (show QRow (λq=>IsQ (Dt V RM R q)) wE E0 R R from rN.congr (λq hq=>by rw[uM.1 q hq]));have xG:=Kh (show ∀q,q<R->hq (Dt V RM R q)<=430000000 from λq hq=>by rw[<-uM.1 q hq];exact rO q hq);clear rN rO uM uJ;have uQ:=Kh (uP.1 wE qR.1 qX.1 (.slice pY L1 cY) nB.1);clear uP;have gY0:=bC.1.at_ 0 rfl;have gY1:=bC.1.at_ 1 rfl;have gY2:=bC.1.at_ 2 rfl;have gY3:=bC.1.at_ 3 rfl;have gY4:=bC.1.at_ 4 rfl;go_wp2_with fail
  refine uQ.1.mono ?_;rintro e wF ⟨vK,J⟩
  obtain⟨_,E1,rfl,_,rN,rO⟩:=vK.resolve_left (λh=>by
   rcases h.1 with h1|h1
   ·exact h1 uK.1.1
   ·exact h1 uK.1.2)
  rw[qZ.1]at rN rO ⊢;clear uQ vK;clear gY0 gY1 gY2 gY3 gY4;have qC:=Kh (bk qB J);have oH:=Kh (bk oG J);have pG:=Kh (bk pF J);have pP:=Kh (bk pO J);have oP:=Kh (bk oO J);have oU:=Kh (bk oT J);have nS:=Kh (bk nR J);have nV:=Kh (bk bC J);have qY:=Kh (qX.1.keep J);have sJ:=Kh (sI.1.keep (λ_=>IsQ.solid _) J);have rW:=Kh (rV.1.keep (λ_=>IsQ.solid _) J);have sZ:=Kh (sW.1.keep (λ_=>IsQ.solid _) J);have nF:=Kh (tH.1.keep (λ_=>IsQ.solid _) J);have sN:=Kh (sM.1.keep (λ_=>IsQ.solid _) J);have sQ:=Kh (nB.1.keep (λ_=>IsQ.solid _) J);have nD:=Kh (tB.1.keep (λ_=>IsQ.solid _) J);have uG:=bt qR J;clear qB oG pF pO oO oT nR bC qX sI rV sW tH sM nB tB qR J;have tD:=Kh (show QRow (λq=>IsQ (Dt V RM R q)) wF E1 R R from rN.congr (λq hq=>by rw[uN.1 q hq]));have HSWY:=Kh (show ∀q,q<R->hq (Dt V RM R q)<=430000000 from λq hq=>by rw[<-uN.1 q hq];exact rO q hq);clear rN rO uN uK;have xZ:=Kh (λW (hm:ModR W M n wt 1 F C X)=>Ln M W.heap.size n ((wt:Int)+2) 1 F C X W hm.mod);rw[qZ.1]at xZ;have zF:=Kh (xZ.1 wF qY.1);clear xZ;have vZ:=Kh (Dz (.slice (some ⟨E0,0,none⟩) R R) (.slice (some ⟨gz,0,none⟩) R R) R (λq=>Dt V RM R q) wF (nD.1.ql R) (nF.1.ql R) (by have:=xF.1;omega) (λq hq=>mH (xG.1 q hq) (by decide)));go_wp2_with fail
  refine zF.1.mono ?_;rintro e w' ⟨rfl,T0⟩;obtain rfl:wF=w':=T0.symm;clear T0 zF;go_wp2_with fail
  refine(vZ.1).mono ?_;rintro e wG ⟨rfl,gA⟩;have qD:=Kh (bk qC gA);have oI:=Kh (bk oH gA);have pH:=Kh (bk pG gA);have pQ:=Kh (bk pP gA);have oQ:=Kh (bk oP gA);have oV:=Kh (bk oU gA);have nT:=Kh (bk nS gA);have nW:=Kh (bk nV gA);have uZ:=Kh (qY.1.keep gA);have sK:=Kh (sJ.1.keep (λ_=>IsQ.solid _) gA);have rX:=Kh (rW.1.keep (λ_=>IsQ.solid _) gA);have tA:=Kh (sZ.1.keep (λ_=>IsQ.solid _) gA);have nG:=Kh (nF.1.keep (λ_=>IsQ.solid _) gA);have sO:=Kh (sN.1.keep (λ_=>IsQ.solid _) gA);have sR:=Kh (sQ.1.keep (λ_=>IsQ.solid _) gA);have tC:=Kh (nD.1.keep (λ_=>IsQ.solid _) gA);have nE:=Kh (tD.1.keep (λ_=>IsQ.solid _) gA);have uH:=bt uG gA;clear qC oH pG pP oP oU nS nV qY sJ rW sZ nF sN sQ nD tD uG gA;clear vZ;have vZ:=Kh (Dz (.slice (some ⟨E1,0,none⟩) R R) (.slice (some ⟨gz,0,none⟩) R R) R (λq=>Dt V RM R q) wG (nE.1.ql R) (nG.1.ql R) (by have:=xF.1;omega) (λq hq=>mH (xG.1 q hq) (by decide)));go_wp2_with fail
  refine(vZ.1).mono ?_;rintro e wH ⟨rfl,gF⟩;have zV:=Kh (bk qD gF);have zQ:=Kh (bk oI gF);have zT:=Kh (bk pH gF);have zU:=Kh (bk pQ gF);have zR:=Kh (bk oQ gF);have zS:=Kh (bk oV gF);have zO:=Kh (bk nT gF);have zP:=Kh (bk nW gF);have HM_wH:=Kh (uZ.1.keep gF);have X9:=Kh (sK.1.keep (λ_=>IsQ.solid _) gF);have X8:=Kh (rX.1.keep (λ_=>IsQ.solid _) gF);have Z0:=Kh (tA.1.keep (λ_=>IsQ.solid _) gF);have HRZ_wH:=Kh (nG.1.keep (λ_=>IsQ.solid _) gF);have Y4:=Kh (sO.1.keep (λ_=>IsQ.solid _) gF);have Y5:=Kh (sR.1.keep (λ_=>IsQ.solid _) gF);have HRX_wH:=Kh (tC.1.keep (λ_=>IsQ.solid _) gF);have HRY_wH:=Kh (nE.1.keep (λ_=>IsQ.solid _) gF);have xY:=bt uH gF;clear qD oI pH pQ oQ oV nT nW uZ sK rX tA nG sO sR tC nE uH gF;go_wp2;go_ret;exact⟨rfl,xY.1⟩
end Go.Proofs.YtenlbhlllgppmaaGreatDoor
