/- The law CorrespondencePaths, walked: it returns true. -/
import Derived.Test.YtenlbhlllgppmaaGreatDoorC34
set_option linter.unusedSimpArgs false
set_option maxRecDepth 100000
set_option maxHeartbeats 8000000
namespace Go.Proofs.YtenlbhlllgppmaaGreatDoor
open Go.RowKit Eli Tryz
theorem Sh {E J I M:Int} {N T a b d:Nat} (U:Al E J=0) (V:Al I M=0) (hb:(E<=400/\J<=400/\I<=400/\M<=400)/\-400<=E/\-400<=I) (h:CoM N T a b d) (O:T<=128):
  (Cg a b 0 d E J=(img a b 0 d (E,J),0)/\Al (img a b 0 d (E,J)).1 (img a b 0 d (E,J)).2=0/\(img a b 0 d (E,J)).1.natAbs<=1073741824/\(img a b 0 d (E,J)).2.natAbs<=1073741824)/\(Cg a b 0 d I M=(img a b 0 d (I,M),0)/\Al (img a b 0 d (I,M)).1 (img a b 0 d (I,M)).2=0/\(img a b 0 d (I,M)).1.natAbs<=1073741824/\(img a b 0 d (I,M)).2.natAbs<=1073741824):=by
 have k:∀p q:Int,Al p q=0->0<=q:=λp q h=>by
  unfold Al at h;split at h
  ·omega
  ·omega
 have Z:=k _ _ U;have h2:=k _ _ V;exact⟨Hy (u:=(E,J)) (H:=400) h O U (by dsimp only;omega) (by dsimp only;omega) (by decide),Hy (u:=(I,M)) (H:=400) h O V (by dsimp only;omega) (by dsimp only;omega) (by decide)⟩
theorem gE {n t:Nat} {D p q p' q':Int} (Z:0<t) (O:t<=128) (U:Al p q=0->p.natAbs<=400/\q.natAbs<=400) (V:Al p' q'=0->p'.natAbs<=400/\q'.natAbs<=400):Xr p q p' q' (Pl.cosAt (Pl.kroP D) n t t)=Ez p q p' q':=by
 have J:∀j,j<F7 n t D->tE (Ae n t D j) p q p' q'=Ez p q p' q':=λj E=>by
  obtain⟨h,_⟩:=Bv (n:=n) (D:=D) Z E;unfold tE eZ Ez;by_cases e1:Al p q=0
  ·have f1:=Hy (u:=(p,q)) (H:=400) h O e1 (U e1).1 (U e1).2 (by decide)
   rw[f1.1,if_neg (by simp),if_neg (by rw[e1];simp)];by_cases e2:Al p' q'=0
   ·have f2:=Hy (u:=(p',q')) (H:=400) h O e2 (V e2).1 (V e2).2 (by decide)
    rw[f2.1,e2]
   ·unfold Cg
    rw[if_pos e2]
  ·rw[if_pos (show Al p q≠0 from e1)]
   have e3:∀a b c d:Int,(Cg a b c d p q).2=Al p q:=λa b c d=>by unfold Cg;rw[if_pos e1]
   rw[e3,if_pos e1]
 have I:∀j (E:j<(Pl.cosAt (Pl.kroP D) n t t).length),(Pl.cosAt (Pl.kroP D) n t t)[j]=Ae n t D j:=λj E=>by
  unfold Ae;rw[List.getD_eq_getElem?_getD,List.getElem?_eq_getElem E];rfl
 by_cases h0:Ez p q p' q'=0
 ·rw[h0]
  refine I8 (λx hx=>?_);obtain⟨j,E,rfl⟩:=List.getElem_of_mem hx;rw[I j E,J j E,h0]
 ·have M:=O3 (n:=n) (t:=t) (D:=D) Z
  have h3:=Q8 (p:=p) (q:=q) (p':=p') (q':=q') (L:=Pl.cosAt (Pl.kroP D) n t t) 0 M (λj E=>absurd E (Nat.not_lt_zero _)) (by rw[I 0 M,J 0 M];exact h0);rw[h3,I 0 M,J 0 M]
theorem jO {n wt t:Nat} {D:Int} (I:Pl.check n ((wt:Int)+2) D=0) (M:0<t) (ht:t<=128) (W:World) (hT:Tab W) (S:Nat->Rat) (v:Value) (p q p' q':Int) (hv:QL (λj=>IsQ (S j)) W v (wt+1)) (hs:∀j,hq (S j)<=4)
  (O:-9223372036854775808<=p) (U:p<=9223372036854775807) (V:-9223372036854775808<=q) (Z:q<=9223372036854775807) (a5:-9223372036854775808<=p') (a6:p'<=9223372036854775807) (a7:-9223372036854775808<=q') (a8:q'<=9223372036854775807) (h1:Al p q=0->p.natAbs<=400/\q.natAbs<=400) (h2:Al p' q'=0->p'.natAbs<=400/\q'.natAbs<=400):
  Calls prog 36 #[Ku n ((wt:Int)+2) D,.int .i64 t,.agg #[v,.int .i64 p,.int .i64 q,.int .i64 p',.int .i64 q']] W λe w'=>(∃B,W.heap.size<=B/\fC w' e B (Ez p q p' q') (Pl.cosAt (Pl.kroP D) n t t) (λi=>N2 S (wt+1) (Ae n t D i)) (λi=>D2 p q (Ae n t D i)) (λi=>D2 p' q' (Ae n t D i)) (wt+1))/\Below W.heap.size W w':=by
 have cB:wt<=22:=by have:=(Pl.check_ok I).2.1;omega
 have E:Pl.cosE (n:Int) ((wt:Int)+2) D (t:Int)=0:=by
  unfold Pl.cosE;rw[if_neg (by rw[I];simp),if_neg (by omega)]
 have J:Pl.cosL (Pl.kroP D) (n:Int) ((wt:Int)+2) D (t:Int)=Pl.cosAt (Pl.kroP D) n t t:=by
  unfold Pl.cosL;rw[if_pos E];rfl
 have h:=Lq 4 (by decide) (by decide) (n:Int) ((wt:Int)+2) D (t:Int) p q p' q' v (wt+1) (λj=>(S j).num) (λj=>((S j).den:Int)) W hT (hv.isB (λj _=>hs j)) (by omega) O U V Z a5 a6 a7 a8
 rw[J,show(λi=>Rat.divInt (S i).num ((S i).den:Int))=S from funext λi=>Rat.num_divInt_den _,show I0 (n:Int) ((wt:Int)+2) D (t:Int) (wt+1) p q p' q' (Pl.cosAt (Pl.kroP D) n t t)=Ez p q p' q' from by
  unfold I0;rw[if_neg (by rw[E];simp),if_neg (by push_cast;omega)];exact gE M ht h1 h2]at h
 exact h
theorem bJ (N k D q:Int) (pa:Option Addr) (la ca:Nat) (xa:Nat->Int) (x1 x2 y1 y2 z1 z2 a b c d:Int) (w:World) (hT:Tab w)
  (vG:∀k,k<la->∃g o,pa=some ⟨g,o,none⟩/\g<w.heap.size/\w.cell? ⟨g,o+k,none⟩=some (.int .i8 (xa k))) (qA:∀k,k<la->-128<=xa k/\xa k<=127) (sP:-9223372036854775808<=x1) (pY:x1<=9223372036854775807) (sQ:-9223372036854775808<=x2) (pZ:x2<=9223372036854775807) (sR:-9223372036854775808<=y1) (qB:y1<=9223372036854775807) (sS:-9223372036854775808<=y2) (qC:y2<=9223372036854775807):
  Calls prog 7 #[.agg #[.int .i64 N,.int .i64 k,.int .i64 D],.int .i64 q,.agg #[.slice pa la ca,.int .i64 x1,.int .i64 x2,.int .i64 y1,.int .i64 y2,.int .i64 z1,.int .i64 z2,.int .i8 a,.int .i8 b,.int .i8 c,.int .i8 d]] w λe w'=>e=.returned (.bool true)/\Below w.heap.size w w':=by
 obtain⟨lb,uY,uZ⟩:=Ux N k D;have tN:=Kh uY;have rJ:=Kh uZ;obtain⟨MX,yJ,m1,m2,m3,m4⟩:=Zk prog x1 x2 y1 y2;obtain⟨MN,yI,m5,m6⟩:=Zl prog x1 y1;have tP:=Kh (And.intro (And.intro m1 m2) (And.intro (And.intro m3 m4) (And.intro m5 m6)));have HT:=Kh hT;have tS:=Kh (λW (hb:Below w.heap.size w W) (m:Nat) (hm:m<=1000)=>fP pa la ca xa m W (λk hk=>by obtain⟨g,o,e,hg,hc⟩:=vG k hk;exact⟨g,o,e,nN hg hb.size,(hb.cell (p:=⟨g,o+k,none⟩) hg).trans hc⟩) qA hm);have xB:=Kh (show ∀j,hq (D5 xa la j)<=4 from λj=>nM (Np qA) (by decide));have tG:=Kh (λ(M n wt:Nat) (D:Int) (F:List Nat) (C:Nat) (X:Nat->Nat->Rat) (W:World) (v:Value) (hb:Below w.heap.size w W) (hm:ModR W M n wt D F C X) (hq:QL (λj=>IsQ (D5 xa la j)) W v (wt+1))=>Jx (hT.below hb) hm v (D5 xa la) x1 x2 y1 y2 hq (λj _=>nM (Np qA) (by decide)) sP pY sQ pZ sR qB sS qC);have tL:=Kh (λ(n wt t:Nat) (D:Int) (nA:Pl.check n ((wt:Int)+2) D=0) (h1:0<t) (h2:t<=128) (W:World) (v:Value) (hb:Below w.heap.size w W) (hq:QL (λj=>IsQ (D5 xa la j)) W v (wt+1)) yB yC=>jO (n:=n) (wt:=wt) (t:=t) (D:=D) nA h1 h2 W (hT.below hb) (D5 xa la) v x1 x2 y1 y2 hq (λj=>nM (Np qA) (by decide)) sP pY sQ pZ sR qB sS qC yB yC);clear hT vG qA uY uZ m1 m2 m3 m4 m5 m6 sP pY sQ pZ sR qB sS qC;go_enter func7,ntmps7
 go_wp2_with fail
 obtain⟨w0,vQ,XS,XC,qR⟩:=bx2 w #[.int .i64 N,.int .i64 k,.int .i64 D] 23 #[.slice pa la ca,.int .i64 x1,.int .i64 x2,.int .i64 y1,.int .i64 y2,.int .i64 z1,.int .i64 z2,.int .i8 a,.int .i8 b,.int .i8 c,.int .i8 d] 50;rw[vQ];refine(Uh w0 (HT.1.below qR)).mono ?_;rintro e wa ⟨rfl,qS⟩;obtain⟨gs,uX⟩:∃x,w.heap.size=x:=⟨_,rfl⟩
 obtain⟨gc,uV⟩:∃x,w.heap.size+1=x:=⟨_,rfl⟩
 have rP:=XS.below_ qS XS.lt;have rO:=XC.below_ qS XC.lt;rw[uV]at rO ⊢;rw[uX]at rP ⊢;have bC:=Kh rP;have hU:=Kh rO;have oY:=Kh (qR.trans (qS.mono qR.size));clear vQ XS XC qR qS uX uV rP rO;have mC:=bC.1.at_ 0 rfl;have cT:=bC.1.at_ 1 rfl;have mD:=bC.1.at_ 2 rfl;go_wp2_with fail
 refine(tN.1 wa).mono ?_;rintro e wb ⟨rfl,qT⟩;clear mC cT mD;have Z:=Kh (bk bC qT);have J:=Kh (bk hU qT);have aD:=bt oY qT;clear bC hU oY qT;clear tN;cases lb with
 | true=>
  go_wp2;go_ret;exact⟨rfl,aD.1⟩
 | false=>
  have oO:=J.1.at_ 1 rfl;have oP:=J.1.at_ 2 rfl;have oQ:=J.1.at_ 3 rfl;have oR:=J.1.at_ 4 rfl;by_cases hq1:q<1
  case pos=>
   go_wp2;all_goals first |(exfalso;omega) |(go_ret;exact⟨rfl,aD.1⟩)
  by_cases hq2:(12:Int)<q
  case pos=>
   go_wp2;all_goals first |(exfalso;omega) |(go_ret;exact⟨rfl,aD.1⟩)
  by_cases hM:(400:Int)<MX
  case pos=>
   go_wp2;all_goals first |(exfalso;omega) |(go_ret;exact⟨rfl,aD.1⟩)
  by_cases hm:MN < -400
  case pos=>
   go_wp2;all_goals first |(exfalso;omega) |(go_ret;exact⟨rfl,aD.1⟩)
  have qG:=Kh (show(x1<=400/\x2<=400/\y1<=400/\y2<=400)/\-400<=x1/\-400<=y1 by have:=tP.1;omega);obtain⟨t,et⟩:∃t:Nat,(t:Int)=q:=⟨q.toNat,by omega⟩
  have bY:=Kh (show(1<=t/\t<=12)/\(t:Int)=q from⟨by omega,et⟩);have rD:¬(q<1):=hq1;have rE:¬((12:Int)<q):=hq2;have uO:¬((400:Int)<MX):=hM;have vA:¬(MN < -400):=hm;clear tP et;have mC:=Z.1.at_ 0 rfl;have cT:=Z.1.at_ 1 rfl;have mD:=Z.1.at_ 2 rfl;by_cases nA:Pl.check N k D=0
  case neg=>
   have tR:=Kh (λW=>Oj N k D W nA);obtain⟨er,nV⟩:∃er,Pl.check N k D=er:=⟨_,rfl⟩
   rw[nV]at tR nA;have yK:(er != 0)=true:=by rw[bne_iff_ne];exact nA
   clear nA nV rJ;go_wp2_with fail
   refine(tR.1 wb).mono ?_;rintro e W1 ⟨rfl,hI⟩;clear oO oP oQ oR hM hm uO vA hq1 hq2 rD rE mC cT mD;have sX:=Kh (bk Z hI);have sW:=Kh (bk J hI);have qF:=bt aD hI;clear Z J aD hI;go_wp2;go_ret;exact⟨rfl,qF.1⟩
  have gL:Pl.check N k D=0:=nA;obtain⟨h1,h2,h3,h4,_,_⟩:=Ba gL;obtain⟨n,en⟩:∃n:Nat,(n:Int)=N:=⟨N.toNat,by omega⟩
  obtain⟨wt,ek⟩:∃wt:Nat,(wt:Int)+2=k:=⟨(k - 2).toNat,by omega⟩
  have hC:=rJ.1 (by simp) n wt en.symm ek.symm gL;rw[<-en,<-ek]at gL;have vT:wt<=22:=by omega
  have sD:0<n:=by omega
  obtain⟨γ,vW⟩:=Yc (n:=n) sD;have nC:=fN n wt D wb (HT.1.below aD.1) gL hC;rw[en,ek]at nC;have qV:Crd n wt D _ _:=gJ (n:=n) (wt:=wt) (D:=D) (by omega);have pU:∀f,f∈frs (Gp n wt D) (cntF n wt)->f<cntF n wt:=qV.low
  obtain⟨F,hF⟩:∃F,frs (Gp n wt D) (cntF n wt)=F:=⟨_,rfl⟩
  obtain⟨X,hX⟩:∃X,B6 (Gp n wt D) (cntF n wt) (cntF n wt)=X:=⟨_,rfl⟩
  obtain⟨C,rU⟩:∃C,cntF n wt=C:=⟨_,rfl⟩
  rw[hF,hX,rU]at nC;rw[hF,hX]at qV;rw[hF,rU]at pU;have pE:=Kh nC;have wT:=Kh qV;have wZ:=Kh pU;have tK:=Kh vW;have rK:=Kh (And.intro sD vT);have rI:=Kh (And.intro en ek);have rG:=Kh gL;clear rJ nA gL h1 h2 h3 h4 en ek hC vT sD vW nC qV pU hF hX rU;go_wp2_with fail
  any_goals (exfalso;omega)
  refine pE.1.mono ?_;rintro e w2 ⟨⟨M,rfl,vB,_⟩,hI⟩;clear pE yJ yI;clear oO oP oQ oR hM hm uO vA hq1 hq2 rD rE mC cT mD;have eP:=Kh (bk Z hI);have O:=Kh (bk J hI);have gN:=bt aD hI;clear Z J aD hI;have nT:=Kh vB;clear vB;obtain⟨R,hR⟩:∃R,F.length=R:=⟨_,rfl⟩
  have oL:=Kh hR;have hO:=Kh (show R<=72 by have:=nT.1.len;rw[hR]at this;exact this);clear hR;obtain⟨L1,uN⟩:∃L,wt+1=L:=⟨_,rfl⟩
  have yH:k - 1=(L1:Int):=by have:=rI.1;omega
  have yQ:IntKind.i64.wrap (L1:Int)=(L1:Int):=IntWalk.i64_in _ (by have:=rK.1;omega);have oK:=Kh uN;have tM:=Kh (show L1<=1000 by have:=rK.1;omega);have rL:=Kh (λW (hb:Below w2.heap.size w2 W)=>tS.1 W (gN.1.trans (hb.mono gN.1.size)) L1 tM.1);clear uN tS tM;go_upto_region 8 with(fail)
  have cT:=eP.1.at_ 1 rfl;have rT:=O.1.at_ 0 rfl;have oO:=O.1.at_ 1 rfl;have oP:=O.1.at_ 2 rfl;have oQ:=O.1.at_ 3 rfl;have oR:=O.1.at_ 4 rfl;go_cut [9]from 70 to 80 (λv9 wx=>∃gp p5 c5,v9=.pointer (some ⟨gp,0,none⟩)/\Blk wx gp 57 #[.slice p5 L1 c5,.int .i64 x1,.int .i64 x2,.int .i64 y1,.int .i64 y2]/\QL (λj=>IsQ (D5 xa la j)) wx (.slice p5 L1 c5) L1/\Below w2.heap.size w2 wx)
  case first=>
   refine kX [] (λW=>W.cell? ⟨gc,0,none⟩=some (.slice pa la ca)/\W.cell? ⟨gs,1,none⟩=some (.int .i64 k)/\W.cell? ⟨gc,1,none⟩=some (.int .i64 x1)/\W.cell? ⟨gc,2,none⟩=some (.int .i64 x2)/\W.cell? ⟨gc,3,none⟩=some (.int .i64 y1)/\W.cell? ⟨gc,4,none⟩=some (.int .i64 y2)) (λW hb=>⟨Av hb rT,Av hb cT,Av hb oO,Av hb oP,Av hb oQ,Av hb oR⟩) (λoM hHeld0=>?_);clear cT rT oO oP oQ oR;refine Dh 0 ?_;refine Dh 1 ?_;refine Dh 2 ?_;refine Dh 3 ?_;refine Dh 4 ?_;refine Dh 6 ?_;refine Dh 7 ?_;refine Dh 8 ?_;refine Dh 9 ?_;refine kV 5 11 rfl rfl (λK hK=>?_) (λK hK=>?_)
   ·focus(go_simp;refine(rL.1 _ (Below.refl _ w2).drew).mono ?_;rintro e w7 ⟨⟨v7,rfl,nB⟩,cF⟩;obtain⟨p7,c7,rfl⟩:=Pv nB.ql;have hN:=Kh ((Below.refl _ w2).drew.trans cF:Below w2.heap.size w2 w7);have rM:=Kh nB.ql;clear nB cF;(first|with_reducible refine hK.out _ _ ?_ (λhHeld1=>?_) |(go_wp2_with fail;with_reducible refine hK.out _ _ ?_ (λhHeld1=>?_))))
    focus((try dsimp only);exact oM.1 _ hN.1)
    focus(clear hK K;(try simp only[Act.put,Bn,Bp,Bo]))
    refine Dh 10 ?_;refine lB 11 rfl (λK hK=>?_);focus(go_simp;refine hK.out _ _ ?_ (λhHeld2=>?_))
    focus((try dsimp only);exact oM.1 _ (hN.1.alloc hN.1.size _))
    focus(clear hK K;(try simp only[Act.put,Bn,Bp,Bo]))
    refine mU 12 rfl (λK hK=>?_);go_simp
    refine hK.out _ _ ?_;clear hK K
    (try simp only[Act.put,Bn,Bp,Bo])
    go_wp2;go_meet
    exact⟨w7.heap.size,p7,c7,rfl,Blk.new w7 57 #[.slice p7 L1 c7,.int .i64 x1,.int .i64 x2,.int .i64 y1,.int .i64 y2],rM.1.keep (λ_=>IsQ.solid _) ((Below.refl _ _).alloc (nL _) _),hN.1.alloc hN.1.size _⟩
   ·focus(go_simp;refine hK.out _ _ ?_ (λhHeld1=>?_))
    focus((try dsimp only);exact oM.1 _ ((Below.refl _ w2).drew.alloc (nL _) _))
    focus(clear hK K;(try simp only[Act.put,Bn,Bp,Bo]))
    refine lB 5 rfl (λK hK=>?_);focus(go_simp;refine(rL.1 _ ((Below.refl _ w2).drew.alloc (nL _) _)).mono ?_;rintro e w7 ⟨⟨v7,rfl,nB⟩,cF⟩;obtain⟨p7,c7,rfl⟩:=Pv nB.ql;have hN:=Kh (((Below.refl _ w2).drew.alloc (nL _) _).trans (cF.mono (by simp)):Below w2.heap.size w2 w7);have rM:=Kh nB.ql;have wY:=Kh nB.fromO;have dY:=Kh (show Blk w7 w2.heap.size 57 #[.slice none 0 0,.int .i64 0,.int .i64 0,.int .i64 0,.int .i64 0]from(Blk.new w2.drew 57 #[.slice none 0 0,.int .i64 0,.int .i64 0,.int .i64 0,.int .i64 0]).below_ cF (by simp));clear nB cF;(first|with_reducible refine hK.out _ _ ?_ (λhHeld2=>?_) |(go_wp2_with fail;with_reducible refine hK.out _ _ ?_ (λhHeld2=>?_))))
    focus((try dsimp only);exact oM.1 _ hN.1)
    focus(clear hK K;(try simp only[Act.put,Bn,Bp,Bo]))
    refine Dh 10 ?_;have n0:=dY.1.at_ 0 rfl;have n1:=dY.1.at_ 1 rfl;have n2:=dY.1.at_ 2 rfl;have n3:=dY.1.at_ 3 rfl;have n4:=dY.1.at_ 4 rfl;have S3:=dY.1.free_ 0;have S4:=dY.1.free_ 1;have T0:=dY.1.free_ 2;have T1:=dY.1.free_ 3;have T2:=dY.1.free_ 4;refine mU 12 rfl (λK hK=>?_);go_simp
    refine hK.out _ _ ?_;clear hK K
    (try simp only[Act.put,Bn,Bp,Bo])
    go_wp2;go_meet
    obtain⟨f1,f2,f3⟩:=Y3 (i:=x1) (j:=x2) (k:=y1) (l:=y2) (B:=w2.heap.size) rfl dY.1 rM.1 (λe he=>by have h7:=wY.1 e he;(try simp only[World.alloc,World.drew,Array.size_push]at h7);omega) (nL _) hN.1;exact⟨w2.heap.size,p7,c7,rfl,f1,f2,f3⟩
  obtain⟨gp,p5,uF,rfl,XQ,vH,mE⟩:=hcut;obtain⟨w5,rfl⟩:∃w5:World,w5=wc:=⟨_,rfl⟩
  clear rL yH yQ;clear cT rT oO oP oQ oR;have iL:=Kh (bk eP mE);have hP:=Kh (bk O mE);have nU:=Kh (nT.1.keep mE);have nS:=bt gN mE;clear eP O nT gN mE;have U:=Kh XQ;have hE:=Kh vH;clear XQ vH;have tH:=Kh (tG.1 M n wt D F C X w5 (.slice p5 L1 uF) nS.1 nU.1 (by rw[oK.1];exact hE.1));clear tG;have pG:=U.1.at_ 0 rfl;have pH:=U.1.at_ 1 rfl;have pJ:=U.1.at_ 2 rfl;have pK:=U.1.at_ 3 rfl;have pL:=U.1.at_ 4 rfl;go_wp2_with fail
  refine tH.1.mono ?_;rintro e w6 ⟨yN,cF⟩;clear tH;clear pG pH pJ pK pL;have I:=Kh (bk iL cF);have cD:=Kh (bk hP cF);have E:=Kh (bk U cF);have dE:=Kh (nU.1.keep cF);have cC:=Kh (hE.1.keep (λ_=>IsQ.solid _) cF);have cX:=bt nS cF;clear iL hP U nU hE nS cF
  have sA:∀p q:Int,Al p q=0->0<=q:=λp q h=>by
   unfold Al at h;split at h
   ·omega
   ·omega
  have pT:=tL.1 n wt t D rG.1 (by have:=bY.1;omega) (by have:=bY.1;omega) w6 (.slice p5 L1 uF) cX.1 (by rw[oK.1];exact cC.1) (λh=>by have h1:=qG.1;have h2:=sA _ _ h;omega) (λh=>by have h1:=qG.1;have h2:=sA _ _ h;omega);rw[bY.1.2,rI.1.1,rI.1.2,oK.1]at pT;have gF:=Kh pT;clear pT tL sA;rcases yN with⟨uR,E3,⟨nV,oH⟩,rfl⟩ |⟨⟨eY,gA⟩,gv,rfl,yE,nW,sK⟩
  case inl=>
   subst oH;obtain⟨er,oH⟩:∃er,Ez x1 x2 y1 y2=er:=⟨_,rfl⟩
   rw[oH]at nV gF ⊢;clear oH;have mC:=I.1.at_ 0 rfl;have cT:=I.1.at_ 1 rfl;have mD:=I.1.at_ 2 rfl;have pG:=E.1.at_ 0 rfl;have pH:=E.1.at_ 1 rfl;have pJ:=E.1.at_ 2 rfl;have pK:=E.1.at_ 3 rfl;have pL:=E.1.at_ 4 rfl;go_wp2_with fail
   refine gF.1.mono ?_;rintro e w7 ⟨⟨BI,_,pV⟩,cB⟩;obtain⟨_,rfl⟩:=pV.resolve_right (λh=>nV h.1);clear mC cT mD pG pH pJ pK pL;have eT:=Kh (bk I cB);have eF:=Kh (bk cD cB);have eG:=Kh (bk E cB);have gU:=Kh (dE.1.keep cB);have hG:=Kh (cC.1.keep (λ_=>IsQ.solid _) cB);have dC:=bt cX cB;clear I cD E dE cC cX cB;have yK:(er != 0)=true:=by rw[bne_iff_ne];exact nV
   clear nV uR pV gF;go_wp2;go_ret;exact⟨rfl,dC.1⟩
  have pQ:Ez x1 x2 y1 y2=0:=by unfold Ez;rw[if_neg (by rw[eY];simp),gA]
  rw[pQ]at gF;rw[oL.1]at nW sK ⊢;obtain⟨V,hV⟩:∃V:Nat->Rat,(λi=>Pot (Aj n wt D (λj=>X j (F.getD i 0)) (D5 xa la)) (y1,y2) - Pot (Aj n wt D (λj=>X j (F.getD i 0)) (D5 xa la)) (x1,x2))=V:=⟨_,rfl⟩
  have rY:∀i,Pot (Aj n wt D (λj=>X j (F.getD i 0)) (D5 xa la)) (y1,y2) - Pot (Aj n wt D (λj=>X j (F.getD i 0)) (D5 xa la)) (x1,x2)=V i:=λi=>congrFun hV i
  obtain⟨RM,rX⟩:∃RM,coM n t wt D F X γ=RM:=⟨_,rfl⟩
  have wO:=Kh (show ∀kk,kk<R->Ia V RM R kk=coG n t wt D (λj=>X j (F.getD kk 0)) (D5 xa la) (x1,x2) (y1,y2)from λkk hk=>by
   have h:=PF.coords rG.1 wT.1 (PF.of_cos (t:=t) (x:=λj=>X j (F.getD kk 0)) rG.1 (dE.1.rel _ (Bl (by rw[oL.1];exact hk))) (by have:=bY.1;omega) (by have:=bY.1;omega)) tK.1 (D5 xa la) (J9 eY) (J9 gA);rw[oL.1]at h;rw[h,<-rX,<-hV];rfl)
  have oE:=Kh (show QRow (λj=>IsQ (V j)) w6 gv R R from nW.congr (λj _=>by rw[rY]));have xH:=Kh (show ∀j,j<R->hq (V j)<=430000000 from λj hj=>by rw[<-rY];exact sK j hj);have oJ:=Kh (And.intro eY gA);have nC:=λW (hb:Below w.heap.size w W) (hm:ModR W M n wt D F C X)=>jL (γ:=γ) t W (HT.1.below hb) hm wZ.1 tK.1 (by have:=bY.1;omega) (by have:=bY.1;omega)
  rw[bY.1.2,rX,oL.1]at nC;have pE:=Kh nC;clear nW sK hV rY rX eY gA nC pQ yE;have mC:=I.1.at_ 0 rfl;have cT:=I.1.at_ 1 rfl;have mD:=I.1.at_ 2 rfl;have pG:=E.1.at_ 0 rfl;have pH:=E.1.at_ 1 rfl;have pJ:=E.1.at_ 2 rfl;have pK:=E.1.at_ 3 rfl;have pL:=E.1.at_ 4 rfl;go_wp2_with fail
  refine gF.1.mono ?_;rintro e w7 ⟨⟨BI,_,pV⟩,cB⟩;obtain⟨_,vI,rfl,vD⟩:=pV.resolve_left (λh=>h.1 rfl);obtain⟨pI,cI,rfl,sG⟩:=vD.read;clear gF pV vD;clear mC cT mD pG pH pJ pK pL;have eT:=Kh (bk I cB);have eF:=Kh (bk cD cB);have eG:=Kh (bk E cB);have gU:=Kh (dE.1.keep cB);have hG:=Kh (cC.1.keep (λ_=>IsQ.solid _) cB);have oF:=Kh (oE.1.keep (λ_=>IsQ.solid _) cB);have dC:=bt cX cB;clear I cD E dE cC oE cX cB;obtain⟨m,hm⟩:∃m,F7 n t D=m:=⟨_,rfl⟩
  have vC:(Pl.cosAt (Pl.kroP D) n t t).length=m:=hm;have qI:=Kh hm;have tO:=Kh (show 0<m/\m<=28 by rw[<-hm];exact⟨O3 (by have:=bY.1;omega),Si (by have:=bY.1;omega)⟩);rw[vC]at sG ⊢;have oA:=Kh sG;clear sG hm vC;have qY:=Kh (pE.1 w7 dC.1 gU.1);clear pE;go_wp2_with fail
  refine qY.1.mono ?_;rintro e w8 ⟨⟨⟨pM,cM,rfl,sE⟩,vL⟩,hJ⟩;clear qY;have mA:=Kh (bk eT hJ);have hQ:=Kh (bk eF hJ);have hW:=Kh (bk eG hJ);have oB:=Kh (λj hj=>(oA.1 j hj).keep hJ);have pB:=Kh (gU.1.keep hJ);have nY:=Kh (hG.1.keep (λ_=>IsQ.solid _) hJ);have oG:=Kh (oF.1.keep (λ_=>IsQ.solid _) hJ);have oW:=bt dC hJ;clear eT eF eG oA gU hG oF dC hJ;obtain⟨RL,rW⟩:∃x,R*R=x:=⟨_,rfl⟩
  have tV:=Kh rW;rw[rW]at sE ⊢;have nX:=Kh sE;have xE:=Kh vL;clear sE vL rW;go_upto_region 14 with(fail)
  obtain⟨w9,vR⟩:∃x,w8.alloc (.cells #[.int .i64 R,.int .i64 R,.slice pM RL cM] 32)=x:=⟨_,rfl⟩
  obtain⟨qN,bE⟩:=Qk w8 #[.int .i64 R,.int .i64 R,.slice pM RL cM] 32;rw[vR]at qN bE ⊢;obtain⟨gm,rC⟩:∃x,w8.heap.size=x:=⟨_,rfl⟩
  rw[rC]at qN ⊢;have rA:=Kh qN;clear vR qN rC;have mB:=Kh (bk mA bE);have hS:=Kh (bk hQ bE);have hZ:=Kh (bk hW bE);have oC:=Kh (λj hj=>(oB.1 j hj).keep bE);have pC:=Kh (pB.1.keep bE);have nZ:=Kh (nY.1.keep (λ_=>IsQ.solid _) bE);have hH:=Kh (oG.1.keep (λ_=>IsQ.solid _) bE);have hD:=Kh (nX.1.keep (λ_=>IsQ.solid _) bE);have oX:=bt oW bE;clear mA hQ hW oB pB nY oG nX oW bE;have bB:=rA;clear rA;have rZ:=Ua R R pM cM V RM (.slice (some ⟨gv,0,none⟩) R R) w9 (by rw[tV.1];exact hD.1) (hH.1.ql R) hO.1 (by have:=hO.1;omega) xH.1 xE.1;rw[tV.1]at rZ;have tD:=Kh rZ;clear rZ;have xT:=bB.1.at_ 0 rfl;have xU:=bB.1.at_ 1 rfl;have xV:=bB.1.at_ 2 rfl;go_wp2_with fail
  refine tD.1.mono ?_;rintro e wB ⟨⟨gz,rfl,_,vK⟩,eX⟩;clear tD;clear xT xU xV;have uE:=Kh (bk mB eX);have uB:=Kh (bk hS eX);have uD:=Kh (bk hZ eX);have uC:=Kh (bk bB eX);have qJ:=Kh (λj hj=>(oC.1 j hj).keep eX);have pD:=Kh (pC.1.keep eX);have wG:=Kh (nZ.1.keep (λ_=>IsQ.solid _) eX);have wH:=Kh (hH.1.keep (λ_=>IsQ.solid _) eX);have wF:=Kh (hD.1.keep (λ_=>IsQ.solid _) eX);have gP:=bt oX eX;clear mB hS hZ bB oC pC nZ hH hD oX eX;have qL:=Kh vK;clear vK;have rH:=Kh (Wd M wB.heap.size n ((wt:Int)+2) D F C X wB pD.1.mod);rw[oL.1]at rH;go_wp2_with fail
  refine rH.1.mono ?_;rintro e w' ⟨rfl,vP⟩;obtain rfl:wB=w':=vP.symm;clear vP rH;go_wp2_with fail
  refine(bD R wB (by have:=hO.1;omega)).mono ?_;rintro e wC ⟨⟨vS,rfl,vE⟩,uQ⟩
  obtain⟨pS,cS,gS,rfl,uU,sF⟩:∃(pS:Option Addr) (cS gS:Nat),vS=.slice pS R cS/\wB.heap.size<=gS/\(0<R->pS=some ⟨gS,0,none⟩/\QRow (λ_=>IsQ 0) wC gS R R):=by
   rcases vE.row with⟨h0,rfl⟩ |⟨g,cap,rfl,hB,hr⟩
   ·exact⟨none,0,wB.heap.size,by rw[h0],nL _,λh=>by omega⟩
   ·exact⟨_,cap,g,rfl,hB,λ_=>⟨rfl,hr⟩⟩
  have wQ:=Kh uQ;have wX:=Kh uU;have qZ:=Kh (show 0<R->pS=some ⟨gS,0,none⟩from λh=>(sF h).1);have tU:=Kh (show 0<R->QRow (λq=>IsQ (coS n t wt D (λj=>X j (F.getD q 0)) (D5 xa la) (x1,x2) (y1,y2) 0)) wC gS R R from λh=>(sF h).2)
  have tI:=Kh (show ∀l,l<m->∀g:Nat->Rat,Pot (Aj n wt D g (N2 (D5 xa la) (wt+1) (Ae n t D l))) (D2 y1 y2 (Ae n t D l)) - Pot (Aj n wt D g (N2 (D5 xa la) (wt+1) (Ae n t D l))) (D2 x1 x2 (Ae n t D l))=((Ae n t D l).2:Rat)*clG n wt D g (Ae n t D l).1.1 (Ae n t D l).1.2.1 0 (Ae n t D l).1.2.2 (D5 xa la) (x1,x2) (y1,y2)from λl hl g=>by
   obtain⟨k1,_⟩:=Bv (n:=n) (D:=D) (t:=t) (by have:=bY.1;omega) (by rw[qI.1];exact hl);obtain⟨a1,a2⟩:=Sh oJ.1.1 oJ.1.2 qG.1 k1 (by have:=bY.1;omega);rw[show D2 y1 y2 (Ae n t D l)=img (Ae n t D l).1.1 (Ae n t D l).1.2.1 0 (Ae n t D l).1.2.2 (y1,y2)from(by unfold D2;rw[a2.1]),show D2 x1 x2 (Ae n t D l)=img (Ae n t D l).1.1 (Ae n t D l).1.2.1 0 (Ae n t D l).1.2.2 (x1,x2)from(by unfold D2;rw[a1.1])];exact W9 k1.det0 (J9 oJ.1.1) (J9 oJ.1.2))
  have wU:=Kh (show ∀l,l<m->(Al (D2 x1 x2 (Ae n t D l)).1 (D2 x1 x2 (Ae n t D l)).2=0/\(D2 x1 x2 (Ae n t D l)).1.natAbs<=1073741824/\(D2 x1 x2 (Ae n t D l)).2.natAbs<=1073741824)/\(Al (D2 y1 y2 (Ae n t D l)).1 (D2 y1 y2 (Ae n t D l)).2=0/\(D2 y1 y2 (Ae n t D l)).1.natAbs<=1073741824/\(D2 y1 y2 (Ae n t D l)).2.natAbs<=1073741824)from λl hl=>by
   obtain⟨k1,_⟩:=Bv (n:=n) (D:=D) (t:=t) (by have:=bY.1;omega) (by rw[qI.1];exact hl);obtain⟨a1,a2⟩:=Sh oJ.1.1 oJ.1.2 qG.1 k1 (by have:=bY.1;omega);have e1:D2 y1 y2 (Ae n t D l)=img (Ae n t D l).1.1 (Ae n t D l).1.2.1 0 (Ae n t D l).1.2.2 (y1,y2):=by unfold D2;rw[a2.1]
   have e2:D2 x1 x2 (Ae n t D l)=img (Ae n t D l).1.1 (Ae n t D l).1.2.1 0 (Ae n t D l).1.2.2 (x1,x2):=by unfold D2;rw[a1.1]
   rw[e1,e2];exact⟨a1.2,a2.2⟩)
  have tJ:=Kh (show ∀l,l<m->∀j,hq (N2 (D5 xa la) (wt+1) (Ae n t D l) j)<=4000 from λl hl j=>by
   obtain⟨k1,k2⟩:=Bv (n:=n) (D:=D) (t:=t) (by have:=bY.1;omega) (by rw[qI.1];exact hl);have h2:=k1.a0;have h3:=k1.bd;have h4:=k1.ad;have ht:=bY.1;have h5:(Ae n t D l).1.1*1<=(Ae n t D l).1.1*(Ae n t D l).1.2.2:=Nat.mul_le_mul_left _ (by omega);have h6:1*(Ae n t D l).1.2.2<=(Ae n t D l).1.1*(Ae n t D l).1.2.2:=Nat.mul_le_mul_right _ h2;have h7:=Y8 (xa:=xa) (la:=la) (wt:=wt) (a:=((Ae n t D l).1.1:Nat)) (b:=((Ae n t D l).1.2.1:Nat)) (c:=0) (d:=((Ae n t D l).1.2.2:Nat)) xB.1 rK.1.2 (by omega) (by omega) (by decide) (by omega) j;have h8:=eQ (show -1<=(Ae n t D l).2/\(Ae n t D l).2<=1 by rw[k2];exact Rc D _) (subst (D5 xa la) wt ((Ae n t D l).1.2.2:Nat) (-((Ae n t D l).1.2.1:Nat)) (-0) ((Ae n t D l).1.1:Nat) (wt+1) j);show hq (((Ae n t D l).2:Rat)*subst (D5 xa la) (wt+1 - 1) ((Ae n t D l).1.2.2:Nat) (-((Ae n t D l).1.2.1:Nat)) (-0) ((Ae n t D l).1.1:Nat) (wt+1) j)<=4000;rw[Nat.add_sub_cancel];omega)
  rw[oK.1]at tI tJ;have wS:=Kh (λW (hb:Below wB.heap.size wB W) v f p q p' q' hp hf a1 a2 a3 a4 a5 a6 a7 a8=>Jx (HT.1.below (gP.1.trans (hb.mono gP.1.size))) (pD.1.keep hb) v f p q p' q' hp hf a1 a2 a3 a4 a5 a6 a7 a8);have zU:=tO.1;clear vE uQ uU sF;go_wp2_with fail
  go_loopw [19] (λii wr=>∃l:Nat,l<=m/\ii=.int .i64 l/\(0<R->QRow (λq=>IsQ (coS n t wt D (λj=>X j (F.getD q 0)) (D5 xa la) (x1,x2) (y1,y2) l)) wr gS R R)/\(∀q,q<R->hq (coS n t wt D (λj=>X j (F.getD q 0)) (D5 xa la) (x1,x2) (y1,y2) l)<=1+l*430000001)/\Below wB.heap.size wB wr/\wC.heap.size<=wr.heap.size) (λii _=>m - (intOf ii).toNat)
  case atStart=>exact⟨0,Nat.zero_le _,rfl,tU.1,λq _=>(by show hq (((0:Int)):Rat)<=1+0*430000001;rw[Dw,Int.natAbs_zero,Cr];omega),wQ.1,nL _⟩
  case round=>
   obtain⟨l,hl,rfl,nD,vM,uS,vV⟩:=hrel;obtain⟨wl,rfl⟩:∃wl:World,wl=wr:=⟨_,rfl⟩
   have qK:=Kh nD;have qM:=Kh vM;have nR:=Kh uS;have xJ:=Kh vV;clear nD vM uS vV tU;by_cases hll:l<m
   ·have M1:(l:Int)<(m:Int):=by omega
    obtain⟨gI,gt,rB,yL,yD,i0,i1,i2,i3,i4,sI⟩:=(qJ.1 l hll).keep nR.1;obtain⟨⟨eY,bx1,bx2⟩,gA,rQ,rR⟩:=wU.1 l hll;have pP:=tI.1 l hll;have sL:=tJ.1 l hll;obtain⟨u,hu⟩:∃u,D2 x1 x2 (Ae n t D l)=u:=⟨_,rfl⟩
    obtain⟨v,hv⟩:∃v,D2 y1 y2 (Ae n t D l)=v:=⟨_,rfl⟩
    rw[hu]at i1 i2 eY bx1 bx2;rw[hv]at i3 i4 gA rQ rR;simp only[hu,hv]at pP;obtain⟨PF,rV⟩:∃PF,N2 (D5 xa la) L1 (Ae n t D l)=PF:=⟨_,rfl⟩
    rw[rV]at sL sI;simp only[rV]at pP;obtain⟨u0,sM⟩:∃i,u.1=i:=⟨_,rfl⟩
    obtain⟨u1,sN⟩:∃i,u.2=i:=⟨_,rfl⟩
    obtain⟨v0,sO⟩:∃i,v.1=i:=⟨_,rfl⟩
    obtain⟨v1,hv1⟩:∃i,v.2=i:=⟨_,rfl⟩
    have vN:u=(u0,u1):=by rw[<-sM,<-sN]
    have vO:v=(v0,v1):=by rw[<-sO,<-hv1]
    rw[sM]at i1 eY bx1;rw[sN]at i2 eY bx2;rw[sO]at i3 gA rQ;rw[hv1]at i4 gA rR;simp only[vN,vO]at pP;have pW:=sI.ql rB;rw[<-oK.1]at pW;have pR:=wS.1 wl nR.1 (.slice (some ⟨gt,0,none⟩) (wt+1) rB) PF u0 u1 v0 v1 pW (λj _=>sL j) (by omega) (by omega) (by omega) (by omega) (by omega) (by omega) (by omega) (by omega);rw[oK.1]at pR;have qX:=Kh pR;have oZ:=Kh pP;have pA:=Kh (And.intro eY gA);clear pP sI eY gA bx1 bx2 rQ rR sL hu hv sM sN sO hv1 vN vO rV yD pW pR;subst yL;go_wp2_with fail
    refine qX.1.mono ?_;rintro e wv ⟨pQ,qU⟩
    obtain⟨_,gx,rfl,yF,nW,pX⟩:=pQ.resolve_left (λh=>by
     rcases h.1 with h1|h1
     ·exact h1 pA.1.1
     ·exact h1 pA.1.2)
    rw[oL.1]at nW pX ⊢;obtain⟨Y,hY⟩:∃Y:Nat->Rat,(λq=>((Ae n t D l).2:Rat)*clG n wt D (λj=>X j (F.getD q 0)) (Ae n t D l).1.1 (Ae n t D l).1.2.1 0 (Ae n t D l).1.2.2 (D5 xa la) (x1,x2) (y1,y2))=Y:=⟨_,rfl⟩
    have qQ:∀q,((Ae n t D l).2:Rat)*clG n wt D (λj=>X j (F.getD q 0)) (Ae n t D l).1.1 (Ae n t D l).1.2.1 0 (Ae n t D l).1.2.2 (D5 xa la) (x1,x2) (y1,y2)=Y q:=λq=>congrFun hY q
    obtain⟨SF,uP⟩:∃SF:Nat->Rat,(λq=>coS n t wt D (λj=>X j (F.getD q 0)) (D5 xa la) (x1,x2) (y1,y2) l)=SF:=⟨_,rfl⟩
    have pO:∀q,coS n t wt D (λj=>X j (F.getD q 0)) (D5 xa la) (x1,x2) (y1,y2) l=SF q:=λq=>congrFun uP q
    have tZ:=Kh (show ∀q,coS n t wt D (λj=>X j (F.getD q 0)) (D5 xa la) (x1,x2) (y1,y2) (l+1)=SF q+1*Y q from λq=>by
     rw[Rat.one_mul,<-qQ,<-pO];rfl)
    have tW:=Kh (show QRow (λq=>IsQ (Y q)) wv gx R R from nW.congr (λq _=>by rw[oZ.1,qQ]))
    have uA:=Kh (show ∀q,q<R->hq (Y q)<=430000000 from λq hq=>by
     have h1:=pX q hq;rw[oZ.1,qQ]at h1;exact h1)
    have xD:=Kh (show ∀q,q<R->hq (SF q)<=12100000000 from λq hq=>by
     have h1:=qM.1 q hq;rw[pO]at h1;have h2:l*430000001<=28*430000001:=Nat.mul_le_mul_right _ (by omega);omega)
    have xF:=Kh (show ∀q,q<R->hq (SF q+1*Y q)<=1+(l+1)*430000001 from λq hq=>by
     have h1:=qM.1 q hq;rw[pO]at h1;have h2:=uA.1 q hq;rw[Rat.one_mul];have h4:=H8 (SF q) (Y q);rw[Nat.add_mul];omega)
    have tX:=Kh (show 0<R->QRow (addQ SF Y 1 0) wv gS R R from λh=>QRow.congr ((qK.1 h).keep (λ_=>IsQ.solid _) qU) (λq _=>by unfold addQ;rw[if_neg (Nat.not_lt_zero q),pO]));have tQ:=Kh (show 0<R->gx≠gS from λh=>by have h1:=(qK.1 h).sts.1;omega);have tF:=bt nR qU;have xK:=Kh (nM xJ.1 qU.size);clear pQ qU yF nW pX hY qQ uP pO qK qM nR qX pA oZ i0 i1 i2 i3 i4;go_wp2_with fail
    go_loopw [22] (λii wr=>∃d:Nat,d<=R/\ii=.int .i64 d/\(0<R->QRow (addQ SF Y 1 d) wr gS R R)/\wv.grownBy wr (some gS)/\I32 wv wr) (λii _=>R - (intOf ii).toNat)
    case atStart=>exact⟨0,Nat.zero_le _,rfl,tX.1,Ag gS (Below.refl _ _),I32.refl _⟩
    case round=>
     obtain⟨d,hd,rfl,nD,uW,uM⟩:=hrel;obtain⟨we,rfl⟩:∃we:World,we=wr:=⟨_,rfl⟩
     have pF:=Kh nD;have qH:=Kh uW;have tC:=Kh uM;clear nD uW uM tX;have H5:=hO.1;by_cases hld:d<R
     ·have L2:(d:Int)<(R:Int):=by omega
      have pN:0<R:=by omega
      have yM:=qZ.1 pN;have oD:=Kh (pF.1 pN);obtain⟨s',p',sT,c',t',q',m',d',a0,a1,a2,a3,vF⟩:=(tW.1.val d hld).butR tC.1 qH.1 (tQ.1 pN);have xA:=Kh (show Qs we s' p' sT c' t' q' m' d' (Y d)from vF);obtain⟨s5,sV,n5,c5,t5,q5,m5,d5,e0,e1,e2,e3,uT⟩:=addQ.elem oD.1 hld;have wV:=Kh (show Qs we s5 sV n5 c5 t5 q5 m5 d5 (SF d)from uT);have oS:=oD.1;have P2:=tQ.1 pN;have P7:gS<we.heap.size:=oS.sts.1;clear vF uT pN;subst yM;go_upto_region 25 with(fail)
      refine Lg (λW=>W.cell? ⟨gx,d*4,none⟩=some (.bool s')/\W.cell? ⟨gx,d*4+1,none⟩=some (.slice p' sT c')/\W.cell? ⟨gx,d*4+2,none⟩=some (.bool t')/\W.cell? ⟨gx,d*4+3,none⟩=some (.slice q' m' d')/\W.cell? ⟨gS,d*4,none⟩=some (.bool s5)/\W.frozen? ⟨gS,d*4,none⟩=false/\W.cell? ⟨gS,d*4+1,none⟩=some (.slice sV n5 c5)/\W.frozen? ⟨gS,d*4+1,none⟩=false/\W.cell? ⟨gS,d*4+2,none⟩=some (.bool t5)/\W.frozen? ⟨gS,d*4+2,none⟩=false/\W.cell? ⟨gS,d*4+3,none⟩=some (.slice q5 m5 d5)/\W.frozen? ⟨gS,d*4+3,none⟩=false) (λW hb=>⟨Av hb a0,Av hb a1,Av hb a2,Av hb a3,Av hb e0,Ab hb (by rw[e0];rfl) (oS.free _ (by omega)),Av hb e1,Ab hb (by rw[e1];rfl) (oS.free _ (by omega)),Av hb e2,Ab hb (by rw[e2];rfl) (oS.free _ (by omega)),Av hb e3,Ab hb (by rw[e3];rfl) (oS.free _ (by omega))⟩) (λoM hHeld0=>?_);clear a0 a1 a2 a3 e0 e1 e2 e3 oS;refine Ap 0 ?_;refine Ap 1 ?_;refine Ap 2 ?_;refine Ap 3 ?_;refine Ap 4 ?_;refine Ap 5 ?_;refine Ap 6 ?_;refine Ap 7 ?_;refine Ap 8 ?_;refine Ap 9 ?_;refine Hq 10 rfl (λK hK=>?_);focus(go_simp;refine(Mx s5 sV n5 c5 t5 q5 m5 d5 (SF d) s' p' sT c' t' q' m' d' (Y d) we.drew (wV.1.keep (Below.refl _ we).drew) (xA.1.keep (Below.refl _ we).drew) (by have:=xD.1 d hld;omega) (by have:=uA.1 d hld;omega)).mono ?_;rintro e w4 ⟨⟨s6,p6,n6,c6,t6,q6,m6,d6,rfl,vU⟩,mE⟩;have qE:=Kh ((Below.refl _ we).drew.trans mE:Below we.heap.size we w4);have sH:=QRow.keep (λj=>(IsQ.solid _:Bi (addQ SF Y 1 d j))) oD.1 qE.1;have tT:=Kh (addQ.put sH hld (show Qs w4 s6 p6 n6 c6 t6 q6 m6 d6 (SF d+1*Y d)by rw[Rat.one_mul];exact vU));have wW:=Kh (show ∀v0 v1 v2 v3,wv.grownBy ((((w4.setCell ⟨gS,d*4,none⟩ v0).setCell ⟨gS,d*4+1,none⟩ v1).setCell ⟨gS,d*4+2,none⟩ v2).setCell ⟨gS,d*4+3,none⟩ v3) (some gS)from λ_ _ _ _=>Dr qH.1 qE.1);have H4:=Kh ((tC.1.trans (I32.below qE.1)).trans (I32.put4 sH.sts (d*4) (d*4+1) (d*4+2) (d*4+3) (.bool s6) (.slice p6 n6 c6) (.bool t6) (.slice q6 m6 d6) (NotInt.bool _) (NotInt.slice _ _ _) (NotInt.bool _)));clear vU mE sH;(first|with_reducible refine hK.out _ _ ?_ (λhHeld1=>?_) |(go_wp2_with fail;with_reducible refine hK.out _ _ ?_ (λhHeld1=>?_))))
      focus((try dsimp only);exact oM.1 _ qE.1)
      focus(clear hK K;(try simp only[Act.put,Bn,Bp,Bo]))
      refine Ap 11 ?_;refine Le 12 rfl (λK hK=>?_);go_simp
      refine hK.out _ _ ?_;clear hK K
      (try simp only[Act.put,Bn,Bp,Bo])
      all_goals clear oD
      all_goals go_wp2
      all_goals go_roundw
      all_goals first
       | exact⟨d+1,by omega,by go_num,λ_=>tT.1,wW.1 _ _ _ _,H4.1⟩
       |(simp[intOf];omega)
     ·obtain rfl:R=d:=by omega
      have xC:=Kh (show 0<R->QRow (λq=>IsQ (coS n t wt D (λj=>X j (F.getD q 0)) (D5 xa la) (x1,x2) (y1,y2) (l+1))) we gS R R from λh=>QRow.congr (pF.1 h) (λq hq=>by unfold addQ;rw[if_pos hq,tZ.1]));have tY:=Kh (show ∀q,q<R->hq (coS n t wt D (λj=>X j (F.getD q 0)) (D5 xa la) (x1,x2) (y1,y2) (l+1))<=1+(l+1)*430000001 from λq hq=>by rw[tZ.1];exact xF.1 q hq);have wP:=Kh (show Below wB.heap.size wB we from Aq tF.1 qH.1 tF.1.size wX.1);have xI:=Kh (nM xK.1 qH.1.size);go_wp2;go_roundw
      case rel=>exact⟨l+1,by omega,by go_num,xC.1,tY.1,wP.1,xI.1⟩
      case measure=>simp[intOf];omega
   ·obtain rfl:m=l:=by omega
    have P1:(0:Int)<(m:Int):=by omega
    have sJ:∀q,q<R->coS n t wt D (λj=>X j (F.getD q 0)) (D5 xa la) (x1,x2) (y1,y2) m=Ia V RM R q:=λq hq=>by
     rw[wO.1 q hq];unfold coG;rw[qI.1];rfl
    have vJ:QL (λq=>IsQ (Ia V RM R q)) wl (.slice pS R cS) R:=by
     rcases Nat.eq_zero_or_pos R with h|h
     ·exact .inl ⟨h,_,_,by rw[h]⟩
     ·rw[qZ.1 h]
      exact QRow.ql ((qK.1 h).congr (λq hq=>by rw[sJ q hq])) cS
    have xG:=Kh (Lc (.slice pS R cS) (.slice (some ⟨gz,0,none⟩) R R) R (λq=>Ia V RM R q) wl vJ ((qL.1.keep (λ_=>IsQ.solid _) nR.1).ql R) (by have:=hO.1;omega) (λq hq=>by
     rw[<-sJ q hq];have h1:=qM.1 q hq;have h2:m*430000001<=28*430000001:=Nat.mul_le_mul_right _ (by omega);omega))
    clear sJ vJ hll hl;go_wp2_with fail
    refine xG.1.mono ?_;rintro e wz ⟨rfl,yA⟩;have wR:=Kh (gP.1.trans ((nR.1.trans (yA.mono nR.1.size)).mono gP.1.size));go_wp2;go_ret;exact⟨rfl,wR.1⟩
end Go.Proofs.YtenlbhlllgppmaaGreatDoor
