/- degeneracy.Down. -/
import Derived.Test.YtenlbhlllgppmaaGreatDoorQ31
set_option linter.unusedSimpArgs false
set_option maxRecDepth 100000
set_option maxHeartbeats 8000000
namespace Go.Proofs.YtenlbhlllgppmaaGreatDoor
section
open Go.RowKit Eli Tryz
def cK (R L2:Nat) (RM:Nat->Nat->Rat) (w':World) (e:Ending):Prop:=
 ∃p c,e=.returned (.tuple #[.agg #[.int .i64 R,.int .i64 L2,.slice p (R*L2) c],.int .i64 0])/\QL (λj=>IsQ (RM (j / L2) (j % L2))) w' (.slice p (R*L2) c) (R*L2)/\∀a b,a<R->b<L2->hq (RM a b)<=430000000
theorem Qc {M M' n n' wt t:Nat} {D:Int} {F F':List Nat} {C C':Nat} {X X':Nat->Nat->Rat} {γ:Nat->M4} (w:World) (hT:Tab w) (hm:ModR w M n wt D F C X) (aL:ModR w M' n' wt D F' C' X') (gL:∀f,f∈F->f<C) (pW:D3 n γ) (ht:0<t) (mY:t<=1000) (hd:n'*t∣n):
  Calls prog 22 #[.pointer (some ⟨M,0,none⟩),.pointer (some ⟨M',0,none⟩),.int .i64 t] w λe w'=>cK F.length F'.length (dnM n n' wt D F F' X' γ t) w' e/\Below w.heap.size w w':=by
 have dY:=hm.check;have eP:=aL.check;have pS:wt<=22:=by have:=(Pl.check_ok dY).2.1;omega
 have sW:0<n:=by have:=Aj dY;omega
 have pE:0<n':=by have:=Aj eP;omega
 have hN:0<(pts n (n*n)).length∨F.length=0:=by
  rcases Nat.eq_zero_or_pos F.length with h|h
  ·exact .inr h
  ·have h1:=gL _ (Bd h)
   rw[<-hm.cnt,cntF]at h1;rcases Nat.eq_zero_or_pos (pts n (n*n)).length with h2|h2
   ·rw[h2,Nat.mul_zero]at h1;omega
   ·exact .inl h2
 have hI:=Kh (λi k (hk:k<F'.length) (h0:0<(pts n (n*n)).length) A B C0 E (Y:LiftOf n (F.getD i 0 % (pts n (n*n)).length) A B C0 E)=>eK (F:=F) (F':=F') (X':=X') (γ:=γ) (t:=t) (i:=i) (k:=k) dY eP aL.rel pW ht hd hk h0 Y);have oF:=Kh (λW (I:Below w.heap.size w W)=>Ge M W.heap.size n ((wt:Int)+2) D F C X W (hm.keep I).mod (kT _));have lG:=Kh (λW (I:Below w.heap.size w W)=>Ge M' W.heap.size n' ((wt:Int)+2) D F' C' X' W (aL.keep I).mod (kT _));have lW:=Kh (λW (I:Below w.heap.size w W)=>Ln M W.heap.size n ((wt:Int)+2) D F C X W (hm.keep I).mod);have lA:=Kh (λW (I:Below w.heap.size w W)=>Ln M' W.heap.size n' ((wt:Int)+2) D F' C' X' W (aL.keep I).mod);have nU:=Kh (λW (I:Below w.heap.size w W)=>dN M W.heap.size n ((wt:Int)+2) D F C X W (hm.keep I).mod (by have:=hm.len;omega));have mA:=Kh (λW (I:Below w.heap.size w W) i (hi:i<F.length)=>dS M n wt D F C X (F.getD i 0) (F.getD i 0 % (pts n (n*n)).length) (F.getD i 0 / (pts n (n*n)).length) W (hT.below I) (hm.keep I) (by have h1:=gL _ (Bd hi);rw[<-hm.cnt,cntF]at h1;exact h1) rfl rfl);have qI:=Kh (λW (I:Below w.heap.size w W) v f p q p' q' hp hf a1 a2 a3 a4 a5 a6 a7 a8=>Gv (hT.below I) (aL.keep I) v f p q p' q' hp hf a1 a2 a3 a4 a5 a6 a7 a8);have nT:=Kh hm.len;have lB:=Kh aL.len;obtain⟨R,hR⟩:∃R,F.length=R:=⟨_,rfl⟩
 obtain⟨O,hP⟩:∃L,F'.length=L:=⟨_,rfl⟩
 obtain⟨N,oT⟩:∃N,(pts n (n*n)).length=N:=⟨_,rfl⟩
 obtain⟨RM,mI⟩:∃RM,dnM n n' wt D F F' X' γ t=RM:=⟨_,rfl⟩
 rw[oT]at hN hI mA;rw[hR]at hN lW mA nT;rw[hP]at hI lA lB;rw[mI]at hI;rw[hR,hP,mI];have rW:R<=72:=nT.1;have rU:O<=72:=lB.1;have oB:=Kh hR;have oA:=Kh hP;have pD:=eQ R (by omega);obtain⟨q,hq⟩:∃q,n / n'=q:=⟨_,rfl⟩
 have rC:n % n'=0:=Nat.mod_eq_zero_of_dvd (Nat.dvd_trans (Nat.dvd_mul_right n' t) hd)
 have rE:q % t=0:=by
  rw[<-hq];obtain⟨k,hk⟩:=hd;rw[hk,Nat.mul_assoc,Nat.mul_div_cancel_left _ pE];exact Nat.mul_mod_right _ _
 have mV:n<=120:=by have:=Aj dY;omega
 have rD:q<=120:=by rw[<-hq];exact kU (Nat.div_le_self _ _) mV
 have m1:(n:Int).tmod (n':Int)=0:=by rw[Int.tmod_eq_emod_of_nonneg (by omega)];omega
 have m2:(n:Int).tdiv (n':Int)=(q:Int):=by rw[Int.tdiv_eq_ediv_of_nonneg (by omega),<-hq];push_cast;rfl
 have m3:(q:Int).tmod (t:Int)=0:=by rw[Int.tmod_eq_emod_of_nonneg (by omega)];omega
 have m4:IntKind.i64.wrap (q:Int)=(q:Int):=IntWalk.i64_in _ (by omega);have sX:(n':Int)≠0:=by omega
 have sZ:(t:Int)≠0:=by omega
 have rZ:¬(n':Int)<1:=by omega
 have sA:¬(t:Int)<1:=by omega
 clear dY eP hT hm aL gL pW hd hq rC rE hR hP oT mI;go_enter func22,ntmps22
 go_wp2_with fail
 obtain⟨w0,pO,X0,oW⟩:=bx1 w #[.int .i64 0,.int .i64 0,.slice none 0 0] 32;rw[pO];obtain⟨gr,hW⟩:∃x,w.heap.size=x:=⟨_,rfl⟩
 have qJ:=Kh hW;rw[hW]at X0;try rw[hW]
 have oG:=Kh X0;have lR:=Kh oW;clear pO X0 oW hW;refine(oF.1 w0 lR.1).mono ?_;rintro e w1 ⟨rfl,mJ⟩;have oH:=Kh (bk oG mJ);have lS:=bt lR mJ;clear mJ oG lR oF;go_wp2_with fail
 refine(lG.1 w1 lS.1).mono ?_;rintro e w2 ⟨rfl,mK⟩;have oJ:=Kh (bk oH mK);have nN:=bt lS mK;clear mK oH lS lG;go_upto_region 4 with(fail)
 obtain⟨w3,pP⟩:∃w3,(w2.alloc (.cells #[.int .i64 n,.int .i64 ((wt:Int)+2),.int .i64 D] 23)).alloc (.cells #[.int .i64 n',.int .i64 ((wt:Int)+2),.int .i64 D] 23)=w3:=⟨_,rfl⟩
 obtain⟨S3,aX,hQ⟩:=Oc w2 #[.int .i64 n,.int .i64 ((wt:Int)+2),.int .i64 D] 23 #[.int .i64 n',.int .i64 ((wt:Int)+2),.int .i64 D] 23;rw[pP]at S3 aX hQ ⊢;obtain⟨gs,mT⟩:∃x,w2.heap.size=x:=⟨_,rfl⟩
 obtain⟨sS,gA⟩:∃x,w2.heap.size+1=x:=⟨_,rfl⟩
 rw[gA]at aX;rw[mT]at S3;try rw[gA]
 try rw[mT]
 have oK:=Kh (bk oJ hQ);have hG:=bt nN hQ;have s0:=S3.at_ 0 rfl;have s1:=S3.at_ 1 rfl;have s2:=S3.at_ 2 rfl;have r0:=aX.at_ 0 rfl;have r1:=aX.at_ 1 rfl;have r2:=aX.at_ 2 rfl;have qY:((wt:Int) !=(wt:Int))=false:=by simp
 have oU:(((wt:Int)+2) !=((wt:Int)+2))=false:=by simp
 have qV:(D != D)=false:=by simp
 clear pP S3 aX hQ mT gA oJ nN;go_wp2_with fail
 refine(lW.1 w3 hG.1).mono ?_;rintro e w' ⟨rfl,gU⟩;obtain rfl:w3=w':=gU.symm;clear gU s0 s1 s2 r0 r1 r2 qY oU qV lW m1 m2 m3 m4;obtain⟨w4,nC⟩:∃w4,w3.alloc (.cells (madeCells #[.slice none 0 0] R) 30)=w4:=⟨_,rfl⟩
 have aN:=RowsOwn.made RM O R w3 w.heap.size hG.1.size (by omega);have mL:Below w3.heap.size w3 w4:=nC▸(Below.refl _ _).alloc (kT _) _;rw[nC]at aN;obtain⟨g8,pA⟩:∃x,w3.heap.size=x:=⟨_,rfl⟩
 rw[pA]at aN
 have oE:=Kh (show RowsX RM 0 O w4 w.heap.size (.slice (some ⟨g8,0,none⟩) 0 R)from by
  obtain⟨a,b,c⟩:=aN;exact⟨a,b,λ_=>c⟩)
 have oL:=Kh (bk oK mL);have lT:=bt hG mL;clear aN mL oK hG;go_wp2_with fail
 clear nC pA pD;refine(nU.1 w4 lT.1).mono ?_;rintro e w5 ⟨⟨vF,rfl,pH⟩,hU⟩;have hJ:=Kh (show OwnK NotU32 w5 w4.heap.size 3 1 vF R (F.map λn:Nat=>Value.int .i64 (n:Int))from by have h:=pH;unfold OwnN at h;rw[oB.1]at h;exact h);obtain⟨pF,cF,rfl⟩:=Bf hJ.1.1
 have nS:=Kh (show ∀V,pF=some ⟨V,0,none⟩->∀k,k<R->w5.cell? ⟨V,k,none⟩=some (.int .i64 ((F.getD k 0:Nat):Int))from λV rA k hk=>by
  subst rA;exact Aq hJ.1.1 (by rw[List.getElem?_map,List.getD_eq_getElem?_getD,List.getElem?_eq_getElem (show k<F.length by rw[oB.1];exact hk)];rfl))
 have qN:=Kh (show 0<R->∃V,pF=some ⟨V,0,none⟩from λh=>by
  obtain⟨V,sO,e,_⟩:=He hJ.1 h;injection e with e1 e2 e3
  exact⟨V,e1⟩)
 have nO:=bt lT hU;have oM:=Kh (bk oL hU);have lE:=Kh (oE.1.keep hU);clear pH hU oE lT oL nU hJ;go_wp2_with fail
 go_loopw [10,73] (λv8 ii wr=>∃i:Nat,i<=R/\ii=.int .i64 i/\RowsX RM i O wr w.heap.size v8/\(∀V,pF=some ⟨V,0,none⟩->∀k,k<R->wr.cell? ⟨V,k,none⟩=some (.int .i64 ((F.getD k 0:Nat):Int)))/\(∀a b,a<i->b<O->hq (RM a b)<=430000000)/\Below w.heap.size w wr/\Blk wr gr 32 #[.int .i64 0,.int .i64 0,.slice none 0 0]) (λ_ ii _=>R - (intOf ii).toNat)
 case atStart=>exact⟨0,Nat.zero_le _,rfl,lE.1,nS.1,λa b h=>absurd h (Nat.not_lt_zero _),nO.1,oM.1⟩
 case round=>
  obtain⟨i,hi,rfl,aN,oZ,pN,oX,pU⟩:=hrel;obtain⟨wx,rfl⟩:∃wx:World,wx=wr:=⟨_,rfl⟩
  have cG:=Kh aN;have lY:=Kh oZ;have mC:=Kh pN;have aK:=Kh oX;have mE:=Kh pU;clear aN oZ pN oX pU lE nS nO oM;by_cases hlt:i<R
  ·have sV:(i:Int)<(R:Int):=by omega
   obtain⟨V,rfl⟩:=qN.1 (by omega);have c0:=lY.1 V rfl i hlt;obtain⟨jf,mU⟩:∃j,F.getD i 0=j:=⟨_,rfl⟩
   have nY:=Kh mU;have qW:0<N:=by omega
   have mW:=mA.1 wx aK.1 i hlt;rw[mU]at c0 mW;have lD:=Kh mW;clear mU mW;go_wp2_with fail
   refine lD.1.mono ?_;rintro e w6 ⟨⟨A,B,C0,E,g6,cX,rfl,Y,qZ,U⟩,dE⟩;obtain⟨⟨_,mO,nD,nE⟩,_,mP,nF,nG⟩:=Ps Y.det Y.bA Y.bB Y.bC Y.bE;have H:=λk hk=>hI.1 i k hk qW A B C0 E (by rw[nY.1];exact Y)
   rw[nY.1]at H;obtain⟨x,hx⟩:∃x,img A B C0 E (0,1)=x:=⟨_,rfl⟩
   obtain⟨y,hy⟩:∃y,img A B C0 E (1,0)=y:=⟨_,rfl⟩
   rw[hx]at mO nD nE H;rw[hy]at mP nF nG H;rw[hx,hy];obtain⟨ex,mQ,bx1,bx2⟩:=I4 ht mY mO nD nE;obtain⟨ey,mR,oO,oP⟩:=I4 ht mY mP nF nG;obtain⟨u,hu⟩:∃u,img (t:Int) 0 0 1 x=u:=⟨_,rfl⟩
   obtain⟨v,hv⟩:∃v,img (t:Int) 0 0 1 y=v:=⟨_,rfl⟩
   rw[hu]at ex mQ bx1 bx2 H;rw[hv]at ey mR oO oP H;obtain⟨S,hS⟩:∃S,symP wt (jf / N) A B C0 E=S:=⟨_,rfl⟩
   have pK:∀j,hq (S j)<=4000:=λj=>by rw[<-hS];exact Uy pS (by have:=Y.bA;omega) (by have:=Y.bB;omega) (by have:=Y.bC;omega) (by have:=Y.bE;omega) j
   have pL:∀j,hq (subst S wt 1 (-0) (-0) t (wt+1) j)<=4000:=λj=>by rw[<-hS];exact Uz pS mY Y.bA Y.bB Y.bC Y.bE j
   rw[hS]at U H;have mB:=Kh U;have nR:=Kh H;have lK:=aK.1.trans (dE.mono aK.1.size);have qH:=Kh lK;have cT:=Kh (λW (I:Below w6.heap.size w6 W)=>(El 4000 (by decide) (by decide) (.slice (some ⟨g6,0,none⟩) (wt+1) cX) (wt+1) (λi=>(S i).num) (λi=>((S i).den:Int)) x.1 x.2 y.1 y.2 t 0 0 1 W (((U.keep (λ_=>IsQ.solid _) I).ql cX).isB (λi _=>pK i)) (by omega) (by omega) (by omega) (by omega) (by decide) (by decide) (by decide) (by decide) (by decide) (by decide) (by omega) (by omega) (by omega) (by omega) (by omega) (by omega) (by omega) (by omega) (by omega)));have he:cZ (t:Int) 0 0 1 x.1 x.2 y.1 y.2=0:=by unfold cZ;rw[ex,ey];rfl
   rw[ex,ey,he,show(λi=>Rat.divInt (S i).num ((S i).den:Int))=S from funext λi=>Rat.num_divInt_den _,Nat.add_sub_cancel]at cT;have aT:=Kh (λW (I:Below w.heap.size w W) vq rG=>qI.1 W I vq (subst S wt 1 (-0) (-0) t (wt+1)) u.1 u.2 v.1 v.2 rG (λj _=>pL j) (by omega) (by omega) (by omega) (by omega) (by omega) (by omega) (by omega) (by omega));have lV:=Kh (And.intro mQ mR);have lF:=Kh (cG.1.keep dE);have lC:=Kh (show ∀k,k<R->w6.cell? ⟨V,k,none⟩=some (.int .i64 ((F.getD k 0:Nat):Int))from λk hk=>Ac dE (lY.1 V rfl k hk));have lI:=Kh (bk mE dE);obtain⟨x0,pT⟩:∃i,x.1=i:=⟨_,rfl⟩
   obtain⟨x1,lO⟩:∃i,x.2=i:=⟨_,rfl⟩
   obtain⟨y0,pV⟩:∃i,y.1=i:=⟨_,rfl⟩
   obtain⟨y1,lP⟩:∃i,y.2=i:=⟨_,rfl⟩
   obtain⟨u0,mZ⟩:∃i,u.1=i:=⟨_,rfl⟩
   obtain⟨u1,nA⟩:∃i,u.2=i:=⟨_,rfl⟩
   obtain⟨v0,nB⟩:∃i,v.1=i:=⟨_,rfl⟩
   obtain⟨v1,hv1⟩:∃i,v.2=i:=⟨_,rfl⟩
   have hM:=Kh (show u=(u0,u1)/\v=(v0,v1)from⟨by rw[<-mZ,<-nA],by rw[<-nB,<-hv1]⟩);rw[pT,lO,pV,lP]at cT ⊢;rw[mZ,nA,nB,hv1]at aT lV;obtain⟨L1,oS⟩:∃L1,wt+1=L1:=⟨_,rfl⟩
   have nZ:=Kh oS;rw[oS]at cT aT mB ⊢;clear Y mO nD nE mP nF nG H hx hy ex mQ bx1 bx2 ey mR oO oP hu hv hS pK pL U lK he pT lO pV lP mZ nA nB hv1 c0 qZ dE lD cG lY mE aK;go_upto_region 13 with(fail)
   obtain⟨w7,pQ,P7,hV⟩:=bx1 w6 #[.slice (some ⟨g6,0,none⟩) L1 cX,.int .i64 x0,.int .i64 x1,.int .i64 y0,.int .i64 y1] 57;rw[pQ];obtain⟨gp,pC⟩:∃x,w6.heap.size=x:=⟨_,rfl⟩
   rw[pC]at P7 ⊢;have nP:=bt qH hV;have lH:=Kh (cT.1 w7 hV);have kY:=Kh hV;have p0:=P7.at_ 0 rfl;have p1:=P7.at_ 1 rfl;have p2:=P7.at_ 2 rfl;have p3:=P7.at_ 3 rfl;have p4:=P7.at_ 4 rfl;clear pQ P7 hV pC cT;go_wp2_with fail
   refine lH.1.mono ?_;rintro e w8 ⟨pJ,mM⟩;obtain⟨_,oR,dC,rfl,pB,gP⟩:=pJ.resolve_left (λh=>h.1 rfl);dsimp only;rw[hM.1.1,hM.1.2];dsimp only;have cD:=Kh gP;have lU:=bt nP mM;have kZ:=bt kY mM;clear p0 p1 p2 p3 p4 pJ mM pB gP kY nP lH;go_upto_region 16 with(fail)
   obtain⟨w9,pR,P9,Z⟩:=bx1 w8 #[.slice (some ⟨oR,0,none⟩) L1 dC,.int .i64 u0,.int .i64 u1,.int .i64 v0,.int .i64 v1] 57;rw[pR];obtain⟨sR,lM⟩:∃x,w8.heap.size=x:=⟨_,rfl⟩
   rw[lM]at P9 ⊢;have J:=lU.1.trans (Z.mono lU.1.size);have nQ:=Kh (aT.1 w9 J (.slice (some ⟨oR,0,none⟩) L1 dC) ((cD.1.keep (λ_=>IsQ.solid _) Z).ql dC));have cC:=Kh J;have cB:=bt kZ Z;have p0:=P9.at_ 0 rfl;have p1:=P9.at_ 1 rfl;have p2:=P9.at_ 2 rfl;have p3:=P9.at_ 3 rfl;have p4:=P9.at_ 4 rfl;clear pR P9 Z lM J aT lU kZ cD;go_wp2_with fail
   refine nQ.1.mono ?_;rintro e wv ⟨oY,mN⟩
   obtain⟨_,gv,rfl,_,mX,gS⟩:=oY.resolve_left (λh=>by
    rcases h.1 with h1|h1
    ·exact h1 lV.1.1
    ·exact h1 lV.1.2)
   rw[oA.1]at mX gS ⊢;have H:=nR.1;rw[hM.1.1,hM.1.2,nZ.1]at H;have aU:=cB.1.trans (mN.mono cB.1.size);have iL:=bt cC mN;have qQ:=Kh (show QRow (λq=>IsQ (RM i q)) wv gv O O from mX.congr (λq hq=>by rw[H q hq]))
   have qR:=Kh (show ∀a b,a<i+1->b<O->hq (RM a b)<=430000000 from λa b ha I=>by
    rcases Nat.lt_or_ge a i with h|h
    ·exact mC.1 a b h I
    ·obtain rfl:a=i:=by omega
     have h1:=gS b I;rw[H b I]at h1;exact h1)
   obtain⟨qT,hX,pI⟩:=lF.1.keep aU;have mS:∀k,k<R->wv.cell? ⟨V,k,none⟩=some (.int .i64 ((F.getD k 0:Nat):Int)):=λk hk=>Ac aU (lC.1 k hk)
   have mD:=Kh (bk lI aU)
   have qL:=Kh (show some V≠Value.ownBlock u10 from λe=>by
    obtain⟨p',n',c',h3⟩:=(hX.2 V e.symm).2 0 _ (mS 0 (by omega));cases h3)
   have qM:=Kh (show some gr≠Value.ownBlock u10 from λe=>by
    obtain⟨p',n',c',h3⟩:=(hX.2 gr e.symm).2 0 _ (mD.1.at_ 0 rfl);cases h3)
   have lZ:=Kh hX;have qP:=Kh pI;have nW:=Kh mS;have lL:=iL.1.size;have rY:i<=72:=by omega
   clear p0 p1 p2 p3 p4 oY mN mX gS H aU hX pI mS lF lC lI nQ cC cB;go_wp2_with (at_builtin;refine Bj SliceV rfl (.tmp 108) (.tmp 110) _ 30 rfl underlying104 Hl rfl (by decide) w.heap.size i u10 ((List.range i).map λi=>Value.slice (some ⟨qT i,0,none⟩) O O) [.slice (some ⟨gv,0,none⟩) O O] rfl lZ.1 rfl rfl (gV _ _ _) (by omega) (by omega) lL (jR _ _ _) jQ ?_;intro v9 pY gN aD oV;have oD:=Kh (RowsX.push lZ.1 qP.1 qQ.1 gN aD);have nV:=Kh (show ∀g,some (⟨V,0,none⟩:Addr)=some ⟨g,0,none⟩->∀k,k<R->pY.cell? ⟨g,k,none⟩=some (.int .i64 ((F.getD k 0:Nat):Int))from λg hg k hk=>by(injection hg with hg;injection hg with hg;subst hg;exact aD.cell (nW.1 k hk) qL.1));have oI:=Kh (show Blk pY gr 32 #[.int .i64 0,.int .i64 0,.slice none 0 0]from(aD.block gr mD.1.lt qM.1).trans mD.1);have nM:=Kh (Aw iL.1 lZ.1.1 aD (kT _) lL);clear gN aD oV)
   go_roundw
   case rel=>exact⟨i+1,by omega,by go_num,oD.1,nV.1,qR.1,nM.1,oI.1⟩
   case measure=>simp[intOf];omega
  ·obtain rfl:R=i:=by omega
   clear hlt hi;go_wp2_with fail
   refine(lA.1 wx aK.1).mono ?_;rintro e w' ⟨rfl,gU⟩;obtain rfl:wx=w':=gU.symm;clear gU;go_wp2_with fail
   refine(Oe RM R O u10 wx cG.1.read (by omega) (by omega) (λa b ha I=>kU (mC.1 a b ha I) (by decide))).mono ?_;rintro e w9 ⟨⟨p9,c9,rfl,hY⟩,Z⟩;have X9:=bk mE Z;have J:=aK.1.trans (Z.mono aK.1.size);have x0:=X9.at_ 0 rfl;have x1:=X9.at_ 1 rfl;have x2:=X9.at_ 2 rfl;have f0:=X9.free_ 0;have f1:=X9.free_ 1;have f2:=X9.free_ 2;have pM:Stk NotU32 w9 gr:=Stk.of X9 (by intro v hv;simp at hv;rcases hv with rfl|rfl|rfl <;> exact λ_ h=>by cases h);have pG:Stk (λv=>∀b,v≠.bool b) w9 gr:=Stk.of X9 (by intro v hv;simp at hv;rcases hv with rfl|rfl|rfl <;> exact λ_ h=>by cases h);obtain⟨RL,mH⟩:∃x,R*O=x:=⟨_,rfl⟩
   have oC:=Kh mH;rw[mH]at hY ⊢
   have qO:=Kh (show ∀W,I32 w9 W->w9.grownBy W (some gr)->QL (λj=>IsQ (RM (j / O) (j % O))) W (.slice p9 RL c9) RL from λW h1 h2=>by
    rcases Nat.eq_zero_or_pos RL with h|h
    ·exact .inl ⟨h,_,_,by rw[h]⟩
    ·exact hY.boxed (λ_=>IsQ.solid _) h1 h2 (λa ha e=>by
      obtain⟨g,o,cap,e1,_,h1⟩:=hY.resolve_left (λh=>by omega);injection e1 with e1
      obtain⟨s,p,n',c,t,q,m',d,h2,_⟩:=h1 0 h;rw[ha]at e1;injection e1 with e1
      rw[e1]at e;rw[show g=gr from e]at h2;exact pG.2 _ _ h2 _ rfl))
   have lX:=Kh (C1 (w:=w9) (R:=gr) (v0:=.int .i64 (R:Int)) (v1:=.int .i64 (O:Int)) (v2:=.slice p9 RL c9) (by rw[x0];rfl) (by rw[x1];rfl) (by rw[x2];rfl));have qK:=Kh (Hi pM (v0:=.int .i64 (R:Int)) (v1:=.int .i64 (O:Int)) (v2:=.slice p9 RL c9) (λ_ h=>by cases h) (λ_ h=>by cases h));have nX:=Kh (((Ai w9 gr 0 (.int .i64 (R:Int))).trans (Ai _ gr 1 (.int .i64 (O:Int)))).trans (Ai _ gr 2 (.slice p9 RL c9)));have cC:=Kh J;clear hY Z J X9 pM pG mH;go_wp2;have e0:=lX.1.1;have e1:=lX.1.2.1;have e2:=lX.1.2.2;try simp only[Exit.inBlock,Exit.then]
   refine bodyPost_ret (by simp[results,results22,go_sem,e0,e1,e2];try rfl) rfl ?_;exact⟨⟨p9,c9,by rw[oC.1],by rw[oC.1];exact qO.1 _ qK.1 nX.1,mC.1⟩,An cC.1 nX.1 cC.1.size (by have:=qJ.1;omega)⟩
theorem Vz (n:Nat) (w:World) (hn:n<=1000):
  Calls prog 120 #[.int .i64 n] w λe w'=>(∃g,e=.returned (.slice (some ⟨g,0,none⟩) n n)/\w.heap.size<=g/\QRow (λ_=>IsQ (((0:Int)):Rat)) w' g n n)/\Below w.heap.size w w':=by
 have bC:=Ir n (by omega);go_enter func120,ntmps120
 go_wp2_with fail
 have I:=QRow.made (λ_=>IsQ (((0:Int)):Rat)) w n;obtain⟨wy,Y⟩:∃wy,w.alloc (.cells (madeCells #[.bool false,.slice none 0 0,.bool false,.slice none 0 0] (n*4)) 86)=wy:=⟨_,rfl⟩
 have V:Below w.heap.size w wy:=Y▸(Below.refl _ _).alloc (kT _) _;rw[Y]at I ⊢;obtain⟨G,hG⟩:∃g,w.heap.size=g:=⟨_,rfl⟩
 have aD:=Kh hG;rw[hG]at I V ⊢;have aK:=Kh I;have h:=Kh V;clear I V Y hG;go_loopw [9] (λii wr=>∃k:Nat,k<=n/\ii=.int .i64 k/\QRow (λ_=>IsQ (((0:Int)):Rat)) wr G n k/\Below G w wr) (λii _=>n - (intOf ii).toNat)
 case atStart=>exact⟨0,Nat.zero_le _,rfl,aK.1,h.1⟩
 case round=>
  obtain⟨k,hk,rfl,J,aL⟩:=hrel;obtain⟨w6,rfl⟩:∃w6:World,w6=wr:=⟨_,rfl⟩
  have O:=Kh J;have Z:=Kh aL;clear J aL aK h;by_cases hlt:k<n
  ·have cB:(k:Int)<(n:Int):=by omega
   go_wp2_with fail
   refine(Ey 0 w6 (by omega) (by omega)).mono ?_;rintro e w8 ⟨⟨s6,p6,n6,c6,t6,q6,m6,d6,rfl,aN⟩,U⟩;have H:=O.1.keep (λ_=>IsQ.solid _) U;have aJ:=Kh (QRow.set (k':=k+1) (λ_=>IsQ.solid _) H k hlt (λ_=>IsQ (((0:Int)):Rat)) (IsQ.solid _) (λi h1 h2=>⟨by omega,rfl⟩) (show IsQ (((0:Int)):Rat) w8 s6 p6 n6 c6 t6 q6 m6 d6 from aN));have aT:=Kh (Z.1.trans (U.mono (Nat.le_of_lt O.1.sts.1)));obtain⟨u0,cC⟩:=kX (H.has (k*4) (by omega));obtain⟨u1,cD⟩:=kX (H.has (k*4+1) (by omega));obtain⟨u2,hu2⟩:=kX (H.has (k*4+2) (by omega));obtain⟨u3,cF⟩:=kX (H.has (k*4+3) (by omega));have f0:=H.free (k*4) (by omega);have f1:=H.free (k*4+1) (by omega);have f2:=H.free (k*4+2) (by omega);have f3:=H.free (k*4+3) (by omega);clear U H aN;go_wp2;go_roundw
   case rel=>exact⟨k+1,by omega,by go_num,aJ.1,A5 aT.1⟩
   case measure=>simp[intOf];omega
  ·obtain rfl:n=k:=by omega
   clear hlt hk;go_wp2;go_ret;exact⟨⟨G,rfl,Nat.le_of_eq aD.1,O.1⟩,aD.1▸Z.1⟩
theorem Z4 (s:Bool) (p:Option Addr) (n c:Nat) (t:Bool) (q:Option Addr) (m d:Nat) (x:Rat) (V:Bool) (p':Option Addr) (n' I:Nat) (Y:Bool) (U:Option Addr) (O J:Nat) (y:Rat) (w:World) (h:Qs w s p n c t q m d x) (H:Qs w V p' n' I Y U O J y) (hx:hq x<=1000000000000) (hy:hq y<=1000000000000):
  Calls prog 39 #[.agg #[.bool s,.slice p n c,.bool t,.slice q m d],.agg #[.bool V,.slice p' n' I,.bool Y,.slice U O J]] w λe w'=>Gr w' e (x+y)/\Below w.heap.size w w':=by
 have Z:=V5 s p n c x.num t q m d x.den V p' n' I y.num Y U O J y.den w h.1.raw h.2.raw H.1.raw H.2.raw (by have:=h.sizes;omega) (by have:=h.sizes;omega) (by have:=H.sizes;omega) (by have:=H.sizes;omega) (Fc x) (Fc y);rw[B7,B7]at Z;exact Z
theorem Qi (g N cx gy oy cy fr:Nat) (F Y:Nat->Rat) (s:Bool) (p:Option Addr) (n c:Nat) (t:Bool) (q:Option Addr) (m d:Nat) (x:Rat) (w:World) (h1:QRow (λj=>IsQ (F j)) w g N N)
  (hE:gy≠g) (hB:gy<w.heap.size) (hJ:∀j,j<N->QE (IsQ (Y j)) w gy (oy+j*4))
  (hx:Qs w s p n c t q m d x) (hK:hq x<=1000000000) (hF:∀j,j<N->hq (F j)<=100000000000/\hq (Y j)<=1000000000) (hN:N<=1000000) (lR:fr<=N) (hY:∀j,j<fr->Y j=0):
  Calls prog 122 #[.slice (some ⟨g,0,none⟩) N cx,.slice (some ⟨gy,oy,none⟩) N cy,.agg #[.bool s,.slice p n c,.bool t,.slice q m d],.int .i64 fr] w λe w'=>(∃v,e=.returned v)/\QRow (λj=>IsQ (F j+x*Y j)) w' g N N/\w.grownBy w' (some g)/\I32 w w':=by
 have lJ:=Kh hJ;have cC:=Kh hE;have HX:=Kh hx;have HF:=Kh hF;have H1:=Kh h1;have HK:=Kh hK;have lA:=Kh h1.sts.1;have mJ:=Kh hB;have lI:=Kh hY;clear h1 hx hF hK hJ hE hB hY;go_enter func122,ntmps122
 go_wp2_with fail
 obtain⟨w0,hG,X0,aT⟩:=bx1 w #[.bool s,.slice p n c,.bool t,.slice q m d] 86;rw[hG];have bB:=Kh aT;have h:=Kh X0
 have cG:=Kh (show QRow (addQ F Y x fr) w0 g N N from QRow.congr (QRow.keep (λ_=>IsQ.solid _) H1.1 aT) (λj _=>by
  unfold addQ;by_cases hj:j<fr
  ·rw[if_pos hj,lI.1 j hj];congr 1;grind
  ·rw[if_neg hj]))
 have lE:=Kh (HX.1.keep aT);obtain⟨gc,bE⟩:∃gc,w.heap.size=gc:=⟨_,rfl⟩
 have aD:=Kh (show gc≠g by have:=lA.1;omega);rw[bE]at h ⊢;have mA:=Kh bE;clear X0 aT hG H1 HX bE;go_wp2;go_loopw [8] (λi wr=>∃k:Nat,k<=N/\i=.int .i64 k/\QRow (addQ F Y x k) wr g N N/\w0.grownBy wr (some g)/\I32 w0 wr) (λi _=>N - (intOf i).toNat)
 case atStart=>exact⟨fr,lR,rfl,cG.1,Af g (Below.refl _ _),I32.refl _⟩
 case round=>
  obtain⟨k,hk,rfl,aX,gU,gN⟩:=hrel;have aK:=Kh aX;have O:=Kh gU;have V:=Kh gN;clear aX gU gN cG;by_cases hlt:k<N
  ·obtain⟨s',p',i1,c',t',q',m',d',a0,a1,a2,a3,hx⟩:=(((lJ.1 k hlt).keep (IsQ.solid _) bB.1).butR V.1 O.1 cC.1)
   have HP:=Kh (show Qs wr s' p' i1 c' t' q' m' d' (Y k)from hx);have cF:=Kh (lE.1.i32 V.1);have x0:=O.1.cell (h.1.at_ 0 rfl) (λe=>by injection e with e;exact aD.1 e);have x1:=O.1.cell (h.1.at_ 1 rfl) (λe=>by injection e with e;exact aD.1 e);have x2:=O.1.cell (h.1.at_ 2 rfl) (λe=>by injection e with e;exact aD.1 e);have x3:=O.1.cell (h.1.at_ 3 rfl) (λe=>by injection e with e;exact aD.1 e);have mP:(k:Int)<(N:Int):=by omega
   have cX:=Kh (show Cells4 wr gc 0 s p n c t q m d from⟨x0,x1,x2,x3⟩);have cB:=Kh (show Cells4 wr gy (oy+k*4) s' p' i1 c' t' q' m' d' from⟨a0,a1,a2,a3⟩);clear hx x0 x1 x2 x3;go_wp2_with fail
   refine(Lt s' p' i1 c' t' q' m' d' (Y k) wr HP.1 (by have:=(HF.1 k hlt).2;omega)).mono ?_;rintro e we ⟨rfl,J⟩;have mI:=Kh J;have H:=Kh (QRow.keep (λj=>(IsQ.solid _:Bh (addQ F Y x k j))) aK.1 J);have aJ:=Kh (O.1.trans (Af g J));have Z:=Kh (V.1.trans (I32.below J));have lD:=Kh (HP.1.keep J);have lF:=Kh (cF.1.keep J);have lH:=Kh (cX.1.keep J);have iL:=Kh (cB.1.keep J);clear J a0 a1 a2 a3 aK O V HP cF cX cB;by_cases hz:Y k=0
   ·have h0:(!decide (Y k=0))=false:=by rw[decide_eq_true hz];rfl
    rw[h0];have lS:=Kh (show F k+x*Y k=F k by rw[hz];grind);clear hz h0;go_wp2;go_roundw
    case rel=>exact⟨k+1,by omega,by go_num,addQ.done H.1 lS.1,aJ.1,Z.1⟩
    case measure=>simp[intOf];omega
   ·have h0:(!decide (Y k=0))=true:=by rw[decide_eq_false hz];rfl
    rw[h0];obtain⟨x0,x1,x2,x3⟩:=lH.1;obtain⟨a0,a1,a2,a3⟩:=iL.1;obtain⟨s5,p5,n5,c5,t5,q5,m5,d5,e0,e1,e2,e3,hy⟩:=addQ.elem H.1 hlt;have kY:=Kh (show Qs we s5 p5 n5 c5 t5 q5 m5 d5 (F k)from hy)
    have lG:=Kh (show hq (x*Y k)<=2000000000 by
     have h1:=Cc x (Y k);have h2:=HK.1;have h3:=(HF.1 k hlt).2;omega)
    have lB:=Kh (λw1 (I:Below we.heap.size we w1)=>Cy s p n c t q m d x s' p' i1 c' t' q' m' d' (Y k) w1 (lF.1.keep I) (lD.1.keep I) (by have:=HK.1;omega) (by have:=(HF.1 k hlt).2;omega));have U:=H.1;have mQ:=cC.1;have mR:=aD.1;have mS:g<we.heap.size:=U.sts.1;clear hy h0 hz;go_upto_region 5 with(fail)
    refine K6 (λW=>W.cell? ⟨gc,0,none⟩=some (.bool s)/\W.cell? ⟨gc,1,none⟩=some (.slice p n c)/\W.cell? ⟨gc,2,none⟩=some (.bool t)/\W.cell? ⟨gc,3,none⟩=some (.slice q m d)/\W.cell? ⟨gy,oy+k*4,none⟩=some (.bool s')/\W.cell? ⟨gy,oy+k*4+1,none⟩=some (.slice p' i1 c')/\W.cell? ⟨gy,oy+k*4+2,none⟩=some (.bool t')/\W.cell? ⟨gy,oy+k*4+3,none⟩=some (.slice q' m' d')/\W.cell? ⟨g,k*4,none⟩=some (.bool s5)/\W.frozen? ⟨g,k*4,none⟩=false/\W.cell? ⟨g,k*4+1,none⟩=some (.slice p5 n5 c5)/\W.frozen? ⟨g,k*4+1,none⟩=false/\W.cell? ⟨g,k*4+2,none⟩=some (.bool t5)/\W.frozen? ⟨g,k*4+2,none⟩=false/\W.cell? ⟨g,k*4+3,none⟩=some (.slice q5 m5 d5)/\W.frozen? ⟨g,k*4+3,none⟩=false) (λW I=>⟨Au I x0,Au I x1,Au I x2,Au I x3,Au I a0,Au I a1,Au I a2,Au I a3,Au I e0,Ab I (by rw[e0];rfl) (U.free _ (by omega)),Au I e1,Ab I (by rw[e1];rfl) (U.free _ (by omega)),Au I e2,Ab I (by rw[e2];rfl) (U.free _ (by omega)),Au I e3,Ab I (by rw[e3];rfl) (U.free _ (by omega))⟩) (λcT hHeld0=>?_);clear x0 x1 x2 x3 a0 a1 a2 a3 e0 e1 e2 e3 U;refine Al 0 ?_;refine Al 1 ?_;refine Al 2 ?_;refine Al 3 ?_;refine Al 4 ?_;refine Al 5 ?_;refine Al 6 ?_;refine Al 7 ?_;refine Al 8 ?_;refine Al 9 ?_;refine Al 10 ?_;refine F9 11 rfl (λK hK=>?_);focus(go_simp;refine(lB.1 _ (Below.refl _ we).drew).mono ?_;rintro e w2 ⟨⟨s3,p3,n3,c3,t3,q3,m3,d3,rfl,hL⟩,gP⟩;have bC:=Kh ((Below.refl _ we).drew.trans gP:Below we.heap.size we w2);have lK:=Kh hL;clear hL gP;(first|with_reducible refine hK.out _ _ ?_ (λhHeld1=>?_) |(go_wp2_with fail;with_reducible refine hK.out _ _ ?_ (λhHeld1=>?_))))
    focus((try dsimp only);exact cT.1 _ bC.1)
    focus(clear hK K;(try simp only[Act.put,Br,Bt,Bs]))
    refine F9 12 rfl (λK hK=>?_);focus(go_simp;refine(Z4 s5 p5 n5 c5 t5 q5 m5 d5 (F k) s3 p3 n3 c3 t3 q3 m3 d3 (x*Y k) _ (kY.1.keep bC.1) lK.1 (by have:=(HF.1 k hlt).1;omega) (by have:=lG.1;omega)).mono ?_;rintro e w4 ⟨⟨s6,p6,n6,c6,t6,q6,m6,d6,rfl,hM⟩,gS⟩;have aL:=bt bC gS;have bY:=QRow.keep (λj=>(IsQ.solid _:Bh (addQ F Y x k j))) H.1 aL.1;have cD:=Kh (addQ.put bY hlt hM);have kZ:=Kh (show ∀v0 v1 v2 v3,w0.grownBy ((((w4.setCell ⟨g,k*4,none⟩ v0).setCell ⟨g,k*4+1,none⟩ v1).setCell ⟨g,k*4+2,none⟩ v2).setCell ⟨g,k*4+3,none⟩ v3) (some g)from λ_ _ _ _=>Fm aJ.1 aL.1);have H4:=Kh ((Z.1.trans (I32.below aL.1)).trans (I32.put4 bY.sts (k*4) (k*4+1) (k*4+2) (k*4+3) (.bool s6) (.slice p6 n6 c6) (.bool t6) (.slice q6 m6 d6) (NotInt.bool _) (NotInt.slice _ _ _) (NotInt.bool _)));clear hM gS bY;(first|with_reducible refine hK.out _ _ ?_ (λhHeld2=>?_) |(go_wp2_with fail;with_reducible refine hK.out _ _ ?_ (λhHeld2=>?_))))
    focus((try dsimp only);exact cT.1 _ aL.1)
    focus(clear hK K;(try simp only[Act.put,Br,Bt,Bs]))
    refine Al 13 ?_;refine K5 14 rfl (λK hK=>?_);go_simp
    refine hK.out _ _ ?_;clear hK K
    (try simp only[Act.put,Br,Bt,Bs])
    all_goals clear H aJ Z
    all_goals go_wp2
    all_goals go_roundw
    all_goals first
     | exact⟨k+1,by omega,by go_num,cD.1,kZ.1 _ _ _ _,H4.1⟩
     |(simp[intOf];omega)
  ·obtain rfl:k=N:=by omega
   go_wp2;go_end0;exact⟨⟨_,rfl⟩,QRow.congr aK.1 (λj hj=>by unfold addQ;rw[if_pos hj]),(Af g bB.1).trans O.1,(I32.below bB.1).trans V.1⟩
def Dt (V:Nat->Rat) (T:Nat->Nat->Rat) (k q:Nat):Rat:=sumQ (λi=>V i*T i q) k
theorem Ot (R C G:Nat) (gs:Nat->Nat) (B0:Nat) (V:Nat->Rat) (T:Nat->Nat->Rat) (v:Value) (w:World) (hG:GM T R C w G gs B0) (hv:QL (λj=>IsQ (V j)) w v R) (hR:R<=72) (hC:C<=1000) (hV:∀j,j<R->hq (V j)<=430000000) (hT:∀i q,i<R->q<C->hq (T i q)<=430000000):
  Calls prog 70 #[v,.slice (some ⟨G,0,none⟩) R R,.int .i64 C] w λe w'=>(∃g,e=.returned (.slice (some ⟨g,0,none⟩) C C)/\w.heap.size<=g/\QRow (λq=>IsQ (Dt V T R q)) w' g C C)/\Below w.heap.size w w':=by
 obtain⟨pv,cv,rfl,hD⟩:∃p c,v=.slice p R c/\(0<R->∃I J,p=some ⟨I,J,none⟩/\I<w.heap.size/\∀j,j<R->QE (IsQ (V j)) w I (J+j*4)):=by
  rcases hv with⟨h,a,c,e⟩ |⟨g,o,cap,e,h1,h2⟩
  ·exact⟨a,c,by rw[h];exact e,λh2=>by omega⟩
  ·exact⟨_,cap,e,λ_=>⟨g,o,rfl,h1,h2⟩⟩
 have hU:=Kh (show ∀k q,k<=R->q<C->hq (Dt V T k q)<=100000000000 from λk q hk hq=>by
  have h1:=Dm (λi=>V i*T i q) 860000000 k (λi hi=>by
   have h2:=Cc (V i) (T i q);have h3:=hV i (by omega);have h4:=hT i q (by omega) hq;omega)
  have h5:k*(860000000+1)<=72*(860000000+1):=Nat.mul_le_mul_right _ (by omega);unfold Dt;omega)
 have dY:=Kh hD;have HV:=Kh hV;have HT:=Kh hT;have aD:=Kh hG;clear hv hD hV hT hG;go_enter func70,ntmps70
 go_wp2_with fail
 refine(Vz C w hC).mono ?_;rintro e w1 ⟨⟨g,rfl,U,H⟩,aK⟩;have dC:=Kh (show QRow (λq=>IsQ (Dt V T 0 q)) w1 g C C from H);have cG:=Kh (aD.1.keep aK)
 have eP:=Kh (λ(h:0<R)=>(show ∃I J,pv=some ⟨I,J,none⟩/\I<g/\∀j,j<R->QE (IsQ (V j)) w1 I (J+j*4)from by
  obtain⟨I,J,e,h1,h2⟩:=dY.1 h;exact⟨I,J,e,kV h1 U,λj hj=>(h2 j hj).keep (IsQ.solid _) aK⟩))
 have aX:=Kh (show G<g/\∀i,i<R->gs i<g from⟨kV aD.1.stk.1 U,λi hi=>kV (aD.1.row i hi).sts.1 U⟩);have cF:=Kh aK;have cT:=Kh U;clear aK U H aD dY;go_wp2_with fail
 go_loopw [13] (λii wr=>∃k:Nat,k<=R/\ii=.int .i64 k/\QRow (λq=>IsQ (Dt V T k q)) wr g C C/\w1.grownBy wr (some g)/\I32 w1 wr) (λii _=>R - (intOf ii).toNat)
 case atStart=>exact⟨0,Nat.zero_le _,rfl,dC.1,Af g (Below.refl _ _),I32.refl _⟩
 case round=>
  obtain⟨k,hk,rfl,H,gP,gL⟩:=hrel;obtain⟨we,rfl⟩:∃we:World,we=wr:=⟨_,rfl⟩
  have bA:=Kh H;have aJ:=Kh gP;have aT:=Kh gL;clear H gP gL dC;by_cases hlt:k<R
  ·have lM:(k:Int)<(R:Int):=by omega
   obtain⟨I,J,kY,lL,gU⟩:=eP.1 (by omega);subst kY;have gS:=(gU k hlt).butR aT.1 aJ.1 (by omega);have cX:=Kh gS;obtain⟨s0,p0,n0,c0,t0,q0,m0,d0,a0,a1,a2,a3,hx⟩:=gS;have HX:=Kh (show Qs we s0 p0 n0 c0 t0 q0 m0 d0 (V k)from hx);clear gU hx;go_wp2_with fail
   refine(Lt s0 p0 n0 c0 t0 q0 m0 d0 (V k) we HX.1 (by have:=HV.1 k hlt;omega)).mono ?_;rintro e wk ⟨rfl,O⟩;have dE:=Kh (QRow.keep (λ_=>IsQ.solid _) bA.1 O);have Z:=Kh (aJ.1.trans (Af g O));have aU:=Kh (aT.1.trans (I32.below O));have hP:=Kh (cX.1.keep (IsQ.solid _) O);clear O a0 a1 a2 a3 HX cX bA aJ aT;by_cases hz:V k=0
   ·have h0:(!decide (V k=0))=false:=by rw[decide_eq_true hz];rfl
    rw[h0];have hS:=Kh (show QRow (λq=>IsQ (Dt V T (k+1) q)) wk g C C from dE.1.congr (λq _=>by unfold Dt;rw[sumQ,hz];congr 1;grind));clear hz h0;go_wp2;go_roundw
    case rel=>exact⟨k+1,by omega,by go_num,hS.1,Z.1,aU.1⟩
    case measure=>simp[intOf];omega
   ·have h0:(!decide (V k=0))=true:=by rw[decide_eq_false hz];rfl
    rw[h0];have bB:=(cG.1.row k hlt).i32 (λ_=>IsQ.solid _) aU.1 Z.1 (by have:=aX.1.2 k hlt;omega);have lK:gs k<g:=aX.1.2 k hlt;have lJ:G<g:=aX.1.1;have l0:=Z.1.cell (cG.1.at_ k hlt) (λe=>by injection e with e;have e2:G=g:=e;omega);obtain⟨s0,p0,n0,c0,t0,q0,m0,d0,a0,a1,a2,a3,hx⟩:=hP.1;have HX:=Kh (show Qs wk s0 p0 n0 c0 t0 q0 m0 d0 (V k)from hx);have hN:=Kh (λW (Y:Below wk.heap.size wk W)=>Qi g C C (gs k) 0 C 0 (λq=>Dt V T k q) (T k) s0 p0 n0 c0 t0 q0 m0 d0 (V k) W (dE.1.keep (λ_=>IsQ.solid _) Y) (by omega) (kV bB.sts.1 Y.size) (λj hj=>by rw[Nat.zero_add];exact(bB.val j hj).keep (IsQ.solid _) Y) (HX.1.keep Y) (by have:=HV.1 k hlt;omega) (λj hj=>⟨hU.1 k j hk hj,by have:=HT.1 k j hlt hj;omega⟩) (by omega) (Nat.zero_le _) (λj hj=>absurd hj (Nat.not_lt_zero _)));clear hx bB hz h0;go_upto_region 6 with(fail)
    refine K6 (λW=>W.cell? ⟨G,k,none⟩=some (.slice (some ⟨gs k,0,none⟩) C C)/\W.cell? ⟨I,J+k*4,none⟩=some (.bool s0)/\W.cell? ⟨I,J+k*4+1,none⟩=some (.slice p0 n0 c0)/\W.cell? ⟨I,J+k*4+2,none⟩=some (.bool t0)/\W.cell? ⟨I,J+k*4+3,none⟩=some (.slice q0 m0 d0)) (λW Y=>⟨Au Y l0,Au Y a0,Au Y a1,Au Y a2,Au Y a3⟩) (λlG hHeld0=>?_);refine Al 0 ?_;refine Al 1 ?_;refine Al 2 ?_;refine Al 3 ?_;refine Al 4 ?_;refine Al 5 ?_;refine Al 6 ?_;refine Al 7 ?_;refine Al 8 ?_;refine K5 9 rfl (λK hK=>?_);focus(go_simp;refine(hN.1 _ (Below.refl _ wk).drew).mono ?_;rintro e w8 ⟨⟨v8,rfl⟩,hB,gN,aL⟩;have hQ:=Kh hB;have hO:=Kh ((Af g (Below.refl _ wk).drew).trans gN);have cD:=Kh ((I32.below (Below.refl _ wk).drew).trans aL);clear hB gN aL;(first|with_reducible refine hK.out _ _ ?_ |(go_wp2_with fail;with_reducible refine hK.out _ _ ?_)))
    clear hK K
    (try simp only[Act.put,Br,Bt,Bs])
    go_wp2;go_roundw
    case rel=>exact⟨k+1,by omega,by go_num,hQ.1,Z.1.trans hO.1,aU.1.trans cD.1⟩
    case measure=>simp[intOf];omega
  ·obtain rfl:k=R:=by omega
   go_wp2;go_ret;exact⟨⟨g,rfl,cT.1,bA.1⟩,An cF.1 aJ.1 cF.1.size cT.1⟩
theorem Od (R C:Nat) (Y:Option Addr) (O:Nat) (V:Nat->Rat) (T:Nat->Nat->Rat) (v:Value) (w:World) (hA:QL (λj=>IsQ (T (j / C) (j % C))) w (.slice Y (R*C) O) (R*C)) (hv:QL (λj=>IsQ (V j)) w v R) (hR:R<=72) (hC:C<=1000) (hV:∀j,j<R->hq (V j)<=430000000) (hT:∀i q,i<R->q<C->hq (T i q)<=430000000):
  Calls prog 26 #[v,.agg #[.int .i64 R,.int .i64 C,.slice Y (R*C) O]] w λe w'=>(∃g,e=.returned (.tuple #[.slice (some ⟨g,0,none⟩) C C,.int .i64 0])/\w.heap.size<=g/\QRow (λq=>IsQ (Dt V T R q)) w' g C C)/\Below w.heap.size w w':=by
 obtain⟨pv,cv,rfl⟩:∃p c,v=.slice p R c:=by
  rcases hv with⟨h,a,c,e⟩ |⟨g,o,cap,e,_⟩
  ·exact⟨a,c,by rw[h];exact e⟩
  ·exact⟨_,cap,e⟩
 obtain⟨RC,H⟩:∃x,R*C=x:=⟨_,rfl⟩
 rw[H]at hA ⊢;have bA:=Kh (λW=>Mw R C RC Y O W (by omega) (by omega) H)
 have dC:=Kh (λW (hb:Below w.heap.size w W)=>(by
  have hX:∀i q,q<C->T i q=(λj=>T (j / C) (j % C)) (i*C+q):=λi q hq=>by
   dsimp only;rw[show(i*C+q) / C=i by rw[Nat.mul_comm,Nat.mul_add_div (by omega),Nat.div_eq_of_lt hq,Nat.add_zero],show(i*C+q) % C=q by rw[Nat.mul_comm,Nat.mul_add_mod,Nat.mod_eq_of_lt hq]]
  rcases hA with⟨h,_⟩ |⟨gA,oA,cap,e,hg,hq⟩
  ·exact Gx R C RC 0 0 O Y (λj=>T (j / C) (j % C)) T W (λh2=>by omega) (λj hj=>by omega) H (by omega) (by omega) (λj hj=>by omega) hX
  ·injection e with e1 e2 e3
   exact Gx R C RC gA oA O Y (λj=>T (j / C) (j % C)) T W (λ_=>⟨e1,kV hg hb.size⟩) (λj hj=>(hq j hj).keep (IsQ.solid _) hb) H (by omega) (by omega) (λj hj=>by
    have gN:0<C:=by
     rcases Nat.eq_zero_or_pos C with h|h
     ·rw[h,Nat.mul_zero]at H;omega
     ·exact h
    exact kU (hT (j / C) (j % C) (Nat.div_lt_of_lt_mul (by rw[Nat.mul_comm,H];exact hj)) (Nat.mod_lt _ gN)) (by decide)) hX:Calls prog 71 #[.agg #[.int .i64 R,.int .i64 C,.slice Y RC O]] W λe w'=>(∃G gs,e=.returned (.slice (some ⟨G,0,none⟩) R R)/\GM T R C w' G gs W.heap.size)/\Below W.heap.size W w'))
 have eP:=Kh hV;have dE:=Kh hT;have HV:=Kh hv;clear hA hV hT hv H;go_enter func26,ntmps26
 go_wp2_with fail
 obtain⟨w0,cF,X0,bC⟩:=bx1 w #[.int .i64 R,.int .i64 C,.slice Y RC O] 32;rw[cF];obtain⟨gb,aD⟩:∃x,w.heap.size=x:=⟨_,rfl⟩
 rw[aD]at X0;try rw[aD]
 have bB:=Kh X0;have aN:=Kh bC;clear cF X0 bC aD;refine(bA.1 w0).mono ?_;rintro e w2 ⟨rfl,Z⟩;have X2:=bk bB Z;have I:=bt aN Z;have m0:=X2.at_ 0 rfl;have m1:=X2.at_ 1 rfl;have m2:=X2.at_ 2 rfl;have hL:((R:Int) !=(R:Int))=false:=by simp
 have dY:=Kh (HV.1.keep (λ_=>IsQ.solid _) I.1);clear Z X2 bB aN bA HV;go_upto_region 3 with(fail)
 refine K6 (λW=>W.cell? ⟨gb,0,none⟩=some (.int .i64 R)/\W.cell? ⟨gb,1,none⟩=some (.int .i64 C)/\W.cell? ⟨gb,2,none⟩=some (.slice Y RC O)) (λW hb=>⟨Au hb m0,Au hb m1,Au hb m2⟩) (λaX hHeld0=>?_);refine Al 0 ?_;refine Al 1 ?_;refine Al 3 ?_;refine Al 4 ?_;refine F9 2 rfl (λK hK=>?_);focus(go_simp;refine(dC.1 _ (I.1.trans ((Below.refl _ w2).drew.mono I.1.size))).mono ?_;rintro e w3 ⟨⟨G,gs,rfl,cC⟩,bE⟩;have J:=Kh ((Below.refl _ w2).drew.trans bE:Below w2.heap.size w2 w3);have cX:=Kh cC;clear cC bE;(first|with_reducible refine hK.out _ _ ?_ (λhHeld1=>?_) |(go_wp2_with fail;with_reducible refine hK.out _ _ ?_ (λhHeld1=>?_))))
 focus((try dsimp only);exact aX.1 _ J.1)
 focus(clear hK K;(try simp only[Act.put,Br,Bt,Bs]))
 refine F9 5 rfl (λK hK=>?_);focus(go_simp;refine(Ot R C G gs _ V T (.slice pv R cv) w3 cX.1 (dY.1.keep (λ_=>IsQ.solid _) J.1) hR hC eP.1 dE.1).mono ?_;rintro e w4 ⟨⟨g,rfl,cB,U⟩,bY⟩;have aT:=Kh (J.1.trans (bY.mono J.1.size):Below w2.heap.size w2 w4);have aU:=Kh U;have cT:=Kh (kU J.1.size cB);clear bY U cB;(first|with_reducible refine hK.out _ _ ?_ (λhHeld2=>?_) |(go_wp2_with fail;with_reducible refine hK.out _ _ ?_ (λhHeld2=>?_))))
 focus((try dsimp only);exact aX.1 _ aT.1)
 focus(clear hK K;(try simp only[Act.put,Br,Bt,Bs]))
 refine Al 6 ?_;refine K5 7 rfl (λK hK=>?_);go_simp
 refine hK.out _ _ ?_;clear hK K
 (try simp only[Act.put,Br,Bt,Bs])
 go_wp2;go_ret2
 exact⟨⟨g,rfl,kU I.1.size cT.1,aU.1⟩,I.1.trans (aT.1.mono I.1.size)⟩
end
section
open Eli
theorem Hy {n n' wt t:Nat} {D:Int} {F F':List Nat} {X X':Nat->Nat->Rat} {γ:Nat->M4} (I:Pl.check n ((wt:Int)+2) D=0) (H:Pl.check n' ((wt:Int)+2) D=0) (U:Crd n wt D F X) (O:∀f,f∈F'->RelZ n' wt D (λj=>X' j f)) (J:D3 n γ) (Z:0<t) (V:n'*t∣n) {k:Nat} (Y:k<F'.length) (Q:Nat->Rat) {u v:Int×Int} (h:Cu u) (hv:Cu v):
  Dt (λi=>Pot (Ag n wt D (λj=>X j (F.getD i 0)) Q) v - Pot (Ag n wt D (λj=>X j (F.getD i 0)) Q) u) (dnM n n' wt D F F' X' γ t) F.length k=clG n' wt D (λj=>X' j (F'.getD k 0)) t 0 0 1 Q u v:=
 (PF.coords I U (PF.of_norm (A:=(t:Int)) (B:=0) (C:=0) (E:=1) H (O _ (Bd Y)) (by omega) (Pf I H Z V)) J Q h hv).symm
def Rt:Nat->Rat:=λj=>if j=0 then 1 else 0
theorem fY:ph 1 2 1 (λj=>Bk (Cb 1 2 1) (cntF 1 2) (cntF 1 2) j 2) (subst Rt 2 1 (-0) (-0) (2:Nat) 3) 0 (-1) 1 0=4:=by decide +kernel
theorem fW:img ((2:Nat):Int) 0 0 1 (0,1)=(0,1):=by decide +kernel
theorem fX:img ((2:Nat):Int) 0 0 1 (1,0)=(1,0):=by decide +kernel
theorem dJ:clG 1 2 1 (λj=>Bk (Cb 1 2 1) (cntF 1 2) (cntF 1 2) j 2) ((2:Nat):Int) 0 0 1 Rt (0,1) (1,0)=-4:=by
 unfold clG;rw[fW,fX,Fl,Cj (x:=(0,1)) (y:=(1,0)) (by decide) (by decide) (by decide),Fl];unfold Ag;rw[if_neg (by decide)];have h:=fY;have e:-(1:Int)=-1:=rfl;rw[show ph 1 2 1 (λj=>Bk (Cb 1 2 1) (cntF 1 2) (cntF 1 2) j 2) (subst Rt 2 1 (-0) (-0) ((2:Nat):Int) (2+1)) (0,1).1 (-(1,0).1) (0,1).2 (-(1,0).2)=4 from h];decide +kernel
def kP (n a k:Nat):List M4:=(List.range k).map λc:Nat=>((a:Int),(0:Int),(c:Int),((n / a:Nat):Int))
def jU (n a b d0:Nat):Nat->List M4
 | 0=>[]
 | k+1=>if(a*(d0+k) - n) % b=0 then jU n a b d0 k++[((a:Int),(b:Int),(((a*(d0+k) - n) / b:Nat):Int),((d0+k:Nat):Int))]else jU n a b d0 k
def kJ (n a:Nat):Nat:=(n+a - 1) / a
def kQ (n a b:Nat):Nat:=(n+(a - b) - 1) / (a - b) - kJ n a
def kK (n a:Nat):Nat->List M4
 | 0=>[]
 | k+1=>kK n a k++jU n a (k+1) (kJ n a) (kQ n a (k+1))
def kR (n a:Nat):List M4:=if n % a=0 then kP n a (n / a)else []
def mr (n:Nat):Nat->List M4
 | 0=>[]
 | k+1=>(mr n k++kR n (k+1))++kK n (k+1) k
end
section
open Go.RowKit Eli Tryz
def MatsIn (w:World) (v:Value) (L:List M4):Prop:=∃g c,v=.slice (some ⟨g,0,none⟩) L.length c/\g<w.heap.size/\∀t,t<L.length->(w.cell? ⟨g,t*4,none⟩=some (.int .i64 (L.getD t (0,0,0,0)).1)/\w.cell? ⟨g,t*4+1,none⟩=some (.int .i64 (L.getD t (0,0,0,0)).2.1)/\w.cell? ⟨g,t*4+2,none⟩=some (.int .i64 (L.getD t (0,0,0,0)).2.2.1)/\w.cell? ⟨g,t*4+3,none⟩=some (.int .i64 (L.getD t (0,0,0,0)).2.2.2))
theorem MatsIn.keep {w w':World} {v:Value} {L:List M4} (h:MatsIn w v L) (H:Below w.heap.size w w'):MatsIn w' v L:=by
 obtain⟨g,c,e,hg,V⟩:=h;refine⟨g,c,e,kV hg H.size,λt Y=>?_⟩;obtain⟨I,J,O,U⟩:=V t Y;exact⟨(H.cell (p:=⟨g,t*4,none⟩) hg).trans I,(H.cell (p:=⟨g,t*4+1,none⟩) hg).trans J,(H.cell (p:=⟨g,t*4+2,none⟩) hg).trans O,(H.cell (p:=⟨g,t*4+3,none⟩) hg).trans U⟩
theorem QL.eqv {f g:Nat->Rat} {w:World} {v:Value} {n:Nat} (h:QL (λj=>IsQ (f j)) w v n) (e:∀j,j<n->f j=g j):QL (λj=>IsQ (g j)) w v n:=by
 rcases h with h |⟨b,o,c,I,J,O⟩
 ·exact .inl h
 ·exact .inr ⟨b,o,c,I,J,λj H=>by show QE (IsQ (g j)) w b (o+j*4);rw[<-e j H];exact O j H⟩
theorem Mu (n wt:Nat) (D:Int) (w:World) (U:Tab w) (H:Pl.check n ((wt:Int)+2) D=0) (I:cntF n wt<=72):
  Calls prog 11 #[.agg #[.int .i64 n,.int .i64 ((wt:Int)+2),.int .i64 D]] w λe w'=>(∃M,e=.returned (.tuple #[.pointer (some ⟨M,0,none⟩),.int .i64 0])/\ModR w' M n wt D (frs (Cb n wt D) (cntF n wt)) (cntF n wt) (Bk (Cb n wt D) (cntF n wt) (cntF n wt)))/\Below w.heap.size w w':=by
 obtain⟨Z,h,h3,h4,_,_⟩:=Aj H;refine(gE n wt D w U H I).mono ?_;rintro e w' ⟨⟨M,rfl,_,Y⟩,J⟩;exact⟨⟨M,rfl,H,rfl,kU (Em _ _) I,Y,λj f V O=>kU (Qu (by omega) I V O) (by omega),λf O=>Nt (by omega) O⟩,J⟩
theorem Lk:Pl.check ((2:Nat):Int) (((2:Nat):Int)+2) 1=0:=by decide +kernel
theorem Ru:cntF 2 2<=72:=by decide +kernel
theorem Lr (w:World) (hT:Tab w):
  Calls prog 18 #[] w λe w'=>e=.returned (.bool true)/\Below w.heap.size w w':=by
 have Y:=Kh (show ∀W,Below w.heap.size w W->Calls prog 11 #[.agg #[.int .i64 2,.int .i64 4,.int .i64 1]] W λe w'=>(∃M,e=.returned (.tuple #[.pointer (some ⟨M,0,none⟩),.int .i64 0])/\ModR w' M 2 2 1 (frs (Cb 2 2 1) (cntF 2 2)) (cntF 2 2) (Bk (Cb 2 2 1) (cntF 2 2) (cntF 2 2)))/\Below W.heap.size W w' from λW hb=>Mu 2 2 1 W (hT.below hb) Lk Ru);have U:=Kh (show ∀W,Below w.heap.size w W->Calls prog 11 #[.agg #[.int .i64 1,.int .i64 4,.int .i64 1]] W λe w'=>(∃M,e=.returned (.tuple #[.pointer (some ⟨M,0,none⟩),.int .i64 0])/\ModR w' M 1 2 1 (frs (Cb 1 2 1) (cntF 1 2)) (cntF 1 2) (Bk (Cb 1 2 1) (cntF 1 2) (cntF 1 2)))/\Below W.heap.size W w' from λW hb=>Mu 1 2 1 W (hT.below hb) Oa (by rw[dK];omega));obtain⟨γ,dY⟩:=G6 (n:=2) (by omega);have aD:=dL
 have aT:∀F X,Crd 2 2 1 F X->Dt (λi=>Pot (Ag 2 2 1 (λj=>X j (F.getD i 0)) Rt) (1,0) - Pot (Ag 2 2 1 (λj=>X j (F.getD i 0)) Rt) (0,1)) (dnM 2 1 2 1 F (frs (Cb 1 2 1) (cntF 1 2)) (Bk (Cb 1 2 1) (cntF 1 2) (cntF 1 2)) γ 2) F.length 0=-4:=λF X hc=>by
  have h:=Hy (n:=2) (n':=1) (wt:=2) (t:=2) (F':=frs (Cb 1 2 1) (cntF 1 2)) (X':=Bk (Cb 1 2 1) (cntF 1 2) (cntF 1 2)) (k:=0) Lk Oa hc (λf hf=>Nt (by omega) hf) dY (by omega) ⟨1,rfl⟩ (by rw[aD];decide) Rt Cu.zero Cu.inf;rw[h,aD];exact dJ
 have H:=Kh (aT _ _ (J7 (n:=2) (wt:=2) (D:=1) (by omega)));have I:∀f,f∈frs (Cb 2 2 1) (cntF 2 2)->f<cntF 2 2:=(J7 (n:=2) (wt:=2) (D:=1) (by omega)).low
 have cB:(frs (Cb 1 2 1) (cntF 1 2)).length=1:=by rw[aD];rfl
 have cC:(frs (Cb 2 2 1) (cntF 2 2)).length<=72:=kU (Em _ _) Ru;obtain⟨F,hF⟩:∃F,frs (Cb 2 2 1) (cntF 2 2)=F:=⟨_,rfl⟩
 obtain⟨X,hX⟩:∃X,Bk (Cb 2 2 1) (cntF 2 2) (cntF 2 2)=X:=⟨_,rfl⟩
 obtain⟨F',cA⟩:∃F,frs (Cb 1 2 1) (cntF 1 2)=F:=⟨_,rfl⟩
 obtain⟨X',hZ⟩:∃X,Bk (Cb 1 2 1) (cntF 1 2) (cntF 1 2)=X:=⟨_,rfl⟩
 obtain⟨C,hC⟩:∃C,cntF 2 2=C:=⟨_,rfl⟩
 obtain⟨C',hU⟩:∃C,cntF 1 2=C:=⟨_,rfl⟩
 rw[hF,hX]at H Y;rw[cA,hZ]at H U;rw[hF]at I cC;rw[cA]at cB;rw[hC]at Y I;rw[hU]at U
 have O:=Kh (λM M' W (hb:Below w.heap.size w W) (hm:ModR W M 2 2 1 F C X) (lR:ModR W M' 1 2 1 F' C' X')=>(show Calls prog 22 #[.pointer (some ⟨M,0,none⟩),.pointer (some ⟨M',0,none⟩),.int .i64 2] W λe w'=>cK F.length 1 (dnM 2 1 2 1 F F' X' γ 2) w' e/\Below W.heap.size W w' from by
  have h:=Qc (t:=2) W (hT.below hb) hm lR I dY (by omega) (by omega) ⟨1,rfl⟩;rw[cB]at h;exact h))
 have gP:=Kh (λM W (hb:Below w.heap.size w W) (hm:ModR W M 2 2 1 F C X) v (hv:QL (λj=>IsQ (Rt j)) W v 3)=>Gv (hT.below hb) hm v Rt 0 1 1 0 hv (λj _=>by unfold Rt;split <;> decide) (by decide) (by decide) (by decide) (by decide) (by decide) (by decide) (by decide) (by decide));obtain⟨R,hR⟩:∃R,F.length=R:=⟨_,rfl⟩
 obtain⟨RM,hW⟩:∃RM,dnM 2 1 2 1 F F' X' γ 2=RM:=⟨_,rfl⟩
 rw[hR]at H O cC;rw[hW]at H O;have lL:=Kh hR;have bE:=Kh Vt;clear hT dY aD aT I cB hF hX cA hZ hC hU hR hW;go_enter func18,ntmps18
 go_wp2_with fail
 refine(Y.1 w (Below.refl _ w)).mono ?_;rintro e w1 ⟨⟨M,rfl,hm⟩,iL⟩;have gS:=Kh hm;have aX:=Kh iL;clear hm iL Y;go_wp2_with fail
 refine(U.1 w1 aX.1).mono ?_;rintro e w2 ⟨⟨M',rfl,hm⟩,cF⟩;have bC:=Kh (gS.1.keep cF);have aN:=Kh hm;have bA:=bt aX cF;clear hm cF U gS aX;go_wp2_with fail
 refine(O.1 M M' w2 bA.1 bC.1 aN.1).mono ?_;rintro e w3 ⟨⟨pT,cT,rfl,lE,lG⟩,cG⟩;have gU:=Kh (bC.1.keep cG);have gA:=bt bA cG;have bY:=Kh lE;have hN:=Kh lG;clear cG lE lG O bC aN bA;go_upto_region 6 with(fail)
 rw[Nat.mul_one]at bY;obtain⟨w4,lH,X4,aJ⟩:=bx1 w3 #[.int .i64 R,.int .i64 1,.slice pT R cT] 32;rw[lH];obtain⟨g4,lB⟩:∃x,w3.heap.size=x:=⟨_,rfl⟩
 rw[lB]at X4 ⊢;have hQ:=Kh X4;have gF:=bt gA aJ;have hB:=Kh (gU.1.keep aJ);have hE:=Kh (bY.1.keep (λ_=>IsQ.solid _) aJ);clear lH X4 aJ lB gA gU bY;go_wp2_with fail
 refine(bE.1 [1,0,0] (by intro a ha;simp at ha;omega) (by decide) w4).mono ?_;rintro e w5 ⟨⟨gv,cv,rfl,lC⟩,J⟩;have hS:=Kh (bk hQ J);have bB:=bt gF J;have hD:=Kh (hB.1.keep J);have hG:=Kh (hE.1.keep (λ_=>IsQ.solid _) J)
 have hO:=Kh (show QL (λj=>IsQ (Rt j)) w5 (.slice (some ⟨gv,0,none⟩) 3 cv) 3 from QL.eqv lC (λj hj=>by
  rcases(show j=0∨j=1∨j=2 by have:j<3:=hj;omega)with rfl|rfl|rfl <;> rfl))
 clear lC J hQ gF hB hE;go_wp2_with fail
 refine(gP.1 M w5 bB.1 hD.1 _ hO.1).mono ?_;rintro e w6 ⟨lA,aK⟩
 obtain⟨_,g6,rfl,_,dC,dE⟩:=lA.resolve_left (λh=>by
  rcases h.1 with h1|h1
  ·exact h1 Wf
  ·exact h1 Wg)
 rw[lL.1]at dC dE ⊢;have Z:=bk hS aK;have gL:=bt bB aK;have hI:=Kh (hG.1.keep (λ_=>IsQ.solid _) aK);have hJ:=Kh dC;have hM:=Kh dE;have x0:=Z.at_ 0 rfl;have x1:=Z.at_ 1 rfl;have x2:=Z.at_ 2 rfl;clear lA aK dC dE Z hS bB hD hG hO gP;obtain⟨V,hV⟩:∃V:Nat->Rat,(λi=>Pot (Ag 2 2 1 (λj=>X j (F.getD i 0)) Rt) (1,0) - Pot (Ag 2 2 1 (λj=>X j (F.getD i 0)) Rt) (0,1))=V:=⟨_,rfl⟩
 have hP:=Kh (show ∀i,Pot (Ag 2 2 1 (λj=>X j (F.getD i 0)) Rt) (1,0) - Pot (Ag 2 2 1 (λj=>X j (F.getD i 0)) Rt) (0,1)=V i from λi=>congrFun hV i);rw[hV]at H;have aU:=Kh (Od R 1 pT cT V RM (.slice (some ⟨g6,0,none⟩) R R) w6 (by rw[Nat.mul_one];exact hI.1) ((hJ.1.congr (λj _=>by rw[hP.1])).ql R) cC (by omega) (λj hj=>by rw[<-hP.1];exact hM.1 j hj) hN.1);rw[Nat.mul_one]at aU;clear hV hJ hM hI hN;go_wp2_with fail
 refine aU.1.mono ?_;rintro e w7 ⟨⟨g7,rfl,_,lF⟩,kY⟩
 have hL:=Kh (show QRow (λ_=>IsQ (((-4:Int)):Rat)) w7 g7 1 1 from lF.congr (λj hj=>by
  obtain rfl:j=0:=by omega
  rw[H.1];rfl))
 have gN:=bt gL kY;clear x0 x1 x2 lF kY gL aU;go_wp2_with fail
 refine(bE.1 [-4] (by intro a ha;simp at ha;omega) (by decide) w7).mono ?_;rintro e w8 ⟨⟨gz,cz,rfl,lD⟩,cX⟩;have lJ:=bt gN cX
 have lM:=Kh (Dz (.slice (some ⟨g7,0,none⟩) 1 1) (.slice (some ⟨gz,0,none⟩) 1 cz) 1 (λ_=>(((-4:Int)):Rat)) w8 ((hL.1.keep (λ_=>IsQ.solid _) cX).ql 1) (QL.eqv lD (λj hj=>by
  obtain rfl:j=0:=by have h1:j<1:=hj;omega
  rfl)) (by omega) (λj _=>by decide +kernel))
 clear lD cX hL gN bE;go_wp2_with fail
 refine lM.1.mono ?_;rintro e w9 ⟨rfl,kZ⟩;have lK:=bt lJ kZ;clear kZ;go_wp2;go_ret;exact⟨rfl,lK.1⟩
end
end Go.Proofs.YtenlbhlllgppmaaGreatDoor
