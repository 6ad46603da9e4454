/- correspondence.Operator. -/
import Derived.Test.YtenlbhlllgppmaaGreatDoorC33
set_option linter.unusedSimpArgs false
set_option maxRecDepth 100000
set_option maxHeartbeats 8000000
namespace Go.Proofs.YtenlbhlllgppmaaGreatDoor
section
open Go.RowKit Eli Tryz
theorem jL {M n wt:Nat} {D:Int} {F:List Nat} {C:Nat} {X:Nat->Nat->Rat} {γ:Nat->M4} (t:Nat) (w:World) (hT:Tab w) (hm:ModR w M n wt D F C X) (pJ:∀f,f∈F->f<C) (uW:Io n γ) (uL:1<=t) (rB:t<=12):
  Calls prog 37 #[.pointer (some ⟨M,0,none⟩),.int .i64 t] w λe w'=>(jC F.length (coM n t wt D F X γ) w' e/\∀i k,i<F.length->k<F.length->hq (coM n t wt D F X γ i k)<=12100000000)/\Below w.heap.size w w':=by
 have cT:=hm.check;have hJ:wt<=22:=by have:=(Pl.check_ok cT).2.1;omega
 have qV:0<n:=by have:=Ba cT;omega
 have hN:0<(pts n (n*n)).length:=Ps qV;have wR:=Kh (λW (I:Below w.heap.size w W)=>Mt M W.heap.size n ((wt:Int)+2) D F C X W (hm.keep I).mod (nL _));have oC:=Kh (λW (I:Below w.heap.size w W)=>Wd M W.heap.size n ((wt:Int)+2) D F C X W (hm.keep I).mod);have sI:=Kh (λW (I:Below w.heap.size w W)=>fJ M W.heap.size n ((wt:Int)+2) D F C X W (hm.keep I).mod (by have:=hm.len;omega));have sR:=Kh (λW (I:Below w.heap.size w W) i (hi:i<F.length)=>fO M n wt D F C X (F.getD i 0) (F.getD i 0 % (pts n (n*n)).length) (F.getD i 0 / (pts n (n*n)).length) W (hT.below I) (hm.keep I) (by have J:=pJ _ (Bl hi);rw[<-hm.cnt,cntF]at J;exact J) rfl rfl);have wB:=Kh (λW (I:Below w.heap.size w W) v f p q p' q' hp hf a1 a2 a3 a4 a5 a6 a7 a8=>Jx (hT.below I) (hm.keep I) v f p q p' q' hp hf a1 a2 a3 a4 a5 a6 a7 a8)
 have tK:Pl.cosL (Pl.kroP D) (n:Int) ((wt:Int)+2) D (t:Int)=Pl.cosAt (Pl.kroP D) n t t:=by
  unfold Pl.cosL Pl.cosE;rw[if_pos (by rw[if_neg (by rw[cT];simp),if_neg (by omega)])];rfl
 have tJ:Pl.cosE (n:Int) ((wt:Int)+2) D (t:Int)=0:=by
  unfold Pl.cosE;rw[if_neg (by rw[cT];simp),if_neg (by omega)]
 have sL:=Kh (λW (I:Below w.heap.size w W) (S:Nat->Rat) (v:Value) (p q p' q':Int) (hv:QL (λj=>IsB 4000 (S j).num ((S j).den:Int)) W v (wt+1)) a1 a2 a3 a4 a5 a6 a7 a8 (hz:∀j,j<F7 n t D->tE (Ae n t D j) p q p' q'=0)=>(by
  have h:=Lq 4000 (by decide) (by decide) (n:Int) ((wt:Int)+2) D (t:Int) p q p' q' v (wt+1) (λj=>(S j).num) (λj=>((S j).den:Int)) W (hT.below I) hv (by omega) a1 a2 a3 a4 a5 a6 a7 a8
  rw[tK,show(λi=>Rat.divInt (S i).num ((S i).den:Int))=S from funext λi=>Rat.num_divInt_den _,show I0 (n:Int) ((wt:Int)+2) D (t:Int) (wt+1) p q p' q' (Pl.cosAt (Pl.kroP D) n t t)=0 from by
   unfold I0;rw[if_neg (by rw[tJ];simp),if_neg (by push_cast;omega)];refine I8 (λx hx=>?_);obtain⟨j,Z,rfl⟩:=List.getElem_of_mem hx;have J:=hz j Z;unfold Ae at J;rw[List.getD_eq_getElem?_getD,List.getElem?_eq_getElem Z]at J;exact J]at h
  exact h:Calls prog 36 #[Ku n ((wt:Int)+2) D,.int .i64 t,.agg #[v,.int .i64 p,.int .i64 q,.int .i64 p',.int .i64 q']] W λe w'=>(∃B,W.heap.size<=B/\fC w' e B 0 (Pl.cosAt (Pl.kroP D) n t t) (λi=>N2 S (wt+1) (Ae n t D i)) (λi=>D2 p q (Ae n t D i)) (λi=>D2 p' q' (Ae n t D i)) (wt+1))/\Below W.heap.size W w'))
 have pH:∀i k,k<F.length->∀A B C0 E,LiftOf n (F.getD i 0 % (pts n (n*n)).length) A B C0 E->coG n t wt D (λj=>X j (F.getD k 0)) (symP wt (F.getD i 0 / (pts n (n*n)).length) A B C0 E) (img A B C0 E (0,1)) (img A B C0 E (1,0))=coM n t wt D F X γ i k:=λi k hk A B C0 E hL=>Wb cT (PF.of_cos cT (hm.rel _ (Bl hk)) (by omega:0<t) (by omega)) uW (Nat.mod_lt _ hN) hL
 have oE:=Kh pH;clear pH;have sH:=Kh hm.len;have pY:=Kh (And.intro qV (And.intro hJ (And.intro uL rB)));have xM:¬((t:Int)<1):=by omega
 have xN:¬((128:Int)<(t:Int)):=by omega
 obtain⟨m,nT⟩:∃m,F7 n t D=m:=⟨_,rfl⟩
 have xO:(Pl.cosAt (Pl.kroP D) n t t).length=m:=nT;have tZ:m<=28:=by rw[<-nT];exact Si rB
 have sO:=Kh nT;have uA:=G4 F.length (by have:=hm.len;omega);have pK:=gY F.length (by have:=hm.len;omega);obtain⟨R,hR⟩:∃R,F.length=R:=⟨_,rfl⟩
 obtain⟨N,qL⟩:∃N,(pts n (n*n)).length=N:=⟨_,rfl⟩
 obtain⟨RM,oJ⟩:∃RM,coM n t wt D F X γ=RM:=⟨_,rfl⟩
 simp only[oJ]at oE;rw[hR,qL]at sR;rw[hR]at oE uA pK oC sH;rw[qL]at oE hN;rw[nT]at sL;have yH:R<=72:=sH.1;have pZ:=Kh hR;have yF:=Kh oJ;have yU:=Kh hN;rw[hR,oJ];clear cT hT hm pJ uW qV hJ uL rB tK tJ nT hR qL oJ hN;go_enter func37,ntmps37
 go_upto_region 1 with(fail)
 obtain⟨w0,uP,X0,tQ⟩:=bx1 w #[.int .i64 0,.int .i64 0,.slice none 0 0] 32;rw[uP];obtain⟨gr,cX⟩:∃x,w.heap.size=x:=⟨_,rfl⟩
 have wE:=Kh cX;rw[cX]at X0;try rw[cX]
 have tB:=Kh X0;have oA:=Kh tQ;clear uP X0 tQ cX;go_wp2_with fail
 refine(oC.1 w0 oA.1).mono ?_;rintro e w' ⟨rfl,cG⟩;obtain rfl:w0=w':=cG.symm;clear cG xM xN;obtain⟨w3,rD⟩:∃w3,w0.alloc (.cells (madeCells #[.slice none 0 0] R) 30)=w3:=⟨_,rfl⟩
 have hI:=RowsOwn.made RM R R w0 w.heap.size oA.1.size (by omega);have qO:Below w0.heap.size w0 w3:=rD▸(Below.refl _ _).alloc (nL _) _;rw[rD]at hI;have qB:=Kh (show RowsX RM 0 R w3 w.heap.size _ from(by obtain⟨gs,J,h2⟩:=hI;exact⟨gs,J,λ_=>h2⟩));have pO:=bt oA qO;have tD:=Kh (bk tB qO);obtain⟨g8,tW⟩:∃x,w0.heap.size=x:=⟨_,rfl⟩
 rw[tW]at qB;clear hI qO tB;go_wp2_with fail
 clear rD tW pK;refine(sI.1 w3 pO.1).mono ?_;rintro e w5 ⟨⟨vF,rfl,uC⟩,oL⟩;have oD:=Kh (show OwnK NotU32 w5 w3.heap.size 3 1 vF R (F.map λn:Nat=>Value.int .i64 (n:Int))from by have h:=uC;unfold OwnN at h;rw[pZ.1]at h;exact h);obtain⟨pF,cF,rfl⟩:=Bg oD.1.1
 have sG:=Kh (show ∀gF,pF=some ⟨gF,0,none⟩->∀k,k<R->w5.cell? ⟨gF,k,none⟩=some (.int .i64 ((F.getD k 0:Nat):Int))from λgF xH k hk=>by
  subst xH;exact Ai oD.1.1 (by rw[List.getElem?_map,List.getD_eq_getElem?_getD,List.getElem?_eq_getElem (show k<F.length by rw[pZ.1];exact hk)];rfl))
 have wM:=Kh (show 0<R->∃gF,pF=some ⟨gF,0,none⟩from λh=>by
  obtain⟨gF,yV,e,_⟩:=Hb oD.1 h;injection e with e1 e2 e3
  exact⟨gF,e1⟩)
 have sB:=bt pO oL;have tF:=Kh (bk tD oL);have oX:=Kh (qB.1.keep oL);clear uC oL pO tD qB sI oD oA;go_wp2_with fail
 go_loopw [6,35] (λv6 ii wr=>∃i:Nat,i<=R/\ii=.int .i64 i/\RowsX RM i R wr w.heap.size v6/\(∀gF,pF=some ⟨gF,0,none⟩->∀k,k<R->wr.cell? ⟨gF,k,none⟩=some (.int .i64 ((F.getD k 0:Nat):Int)))/\(∀a b,a<i->b<R->hq (RM a b)<=12100000000)/\Below w.heap.size w wr/\Blk wr gr 32 #[.int .i64 0,.int .i64 0,.slice none 0 0]) (λ_ ii _=>R - (intOf ii).toNat)
 case atStart=>exact⟨0,Nat.zero_le _,rfl,oX.1,sG.1,λa b h=>absurd h (Nat.not_lt_zero _),sB.1,tF.1⟩
 case round=>
  obtain⟨i,hi,rfl,hI,tV,aN,tS,uT⟩:=hrel;obtain⟨wx,rfl⟩:∃wx:World,wx=wr:=⟨_,rfl⟩
  have hW:=Kh hI;have pT:=Kh tV;have qD:=Kh aN;have cS:=Kh tS;have qF:=Kh uT;clear hI tV aN tS uT sG sB tF oX;by_cases hlt:i<R
  ·have zB:(i:Int)<(R:Int):=by omega
   obtain⟨gF,rfl⟩:=wM.1 (by omega);have c0:=pT.1 gF rfl i hlt;obtain⟨jf,qT⟩:∃j,F.getD i 0=j:=⟨_,rfl⟩
   have sM:=Kh qT;have qW:=sR.1 wx cS.1 i hlt;rw[qT]at c0 qW;have oV:=Kh qW;have pX:=Kh hlt;clear qT qW;go_wp2_with fail
   refine oV.1.mono ?_;rintro e w6 ⟨⟨A1,B1,C1,E1,g6,eX,rfl,hL,xG,dC⟩,cB⟩;obtain⟨⟨_,qQ,rF,rG⟩,_,qR,rH,rI⟩:=P4 hL.det hL.bA hL.bB hL.bC hL.bE;have mE:Cu (img A1 B1 C1 E1 (0,1)):=Br (by have:=hL.det;omega) Cu.zero;have nA:Cu (img A1 B1 C1 E1 (1,0)):=Br (by have:=hL.det;omega) Cu.inf;have nS:=λk hk=>oE.1 i k hk A1 B1 C1 E1 (by rw[sM.1];exact hL)
   rw[sM.1]at nS;have hJ:=pY.1.2.1;have uM:=pY.1.2.2.2;have xP:=pY.1.2.2.1;obtain⟨x,hx⟩:∃x,img A1 B1 C1 E1 (0,1)=x:=⟨_,rfl⟩
   obtain⟨y,hy⟩:∃y,img A1 B1 C1 E1 (1,0)=y:=⟨_,rfl⟩
   rw[hx]at qQ rF rG mE;rw[hy]at qR rH rI nA;simp only[hx,hy]at nS;rw[hx,hy];obtain⟨S,hS⟩:∃S,symP wt (jf / N) A1 B1 C1 E1=S:=⟨_,rfl⟩
   have uI:∀j,hq (S j)<=4000:=λj=>by rw[<-hS];exact Vq hJ (by have:=hL.bA;omega) (by have:=hL.bB;omega) (by have:=hL.bC;omega) (by have:=hL.bE;omega) j
   have nR:∀j,j<m->CoM n t (Ae n t D j).1.1 (Ae n t D j).1.2.1 (Ae n t D j).1.2.2/\(-1<=(Ae n t D j).2/\(Ae n t D j).2<=1):=λj Z=>by
    obtain⟨k1,k2⟩:=Bv (n:=n) (D:=D) (t:=t) (by omega) (by rw[sO.1];exact Z);exact⟨k1,by rw[k2];exact Rc D _⟩
   have nD:∀j,j<m->Cg (Ae n t D j).1.1 (Ae n t D j).1.2.1 0 (Ae n t D j).1.2.2 x.1 x.2=(img (Ae n t D j).1.1 (Ae n t D j).1.2.1 0 (Ae n t D j).1.2.2 x,0)/\Al (img (Ae n t D j).1.1 (Ae n t D j).1.2.1 0 (Ae n t D j).1.2.2 x).1 (img (Ae n t D j).1.1 (Ae n t D j).1.2.1 0 (Ae n t D j).1.2.2 x).2=0/\(img (Ae n t D j).1.1 (Ae n t D j).1.2.1 0 (Ae n t D j).1.2.2 x).1.natAbs<=1073741824/\(img (Ae n t D j).1.1 (Ae n t D j).1.2.1 0 (Ae n t D j).1.2.2 x).2.natAbs<=1073741824:=λj Z=>Hy (nR j Z).1 (by omega) qQ rF rG (by omega)
   have nQ:∀j,j<m->Cg (Ae n t D j).1.1 (Ae n t D j).1.2.1 0 (Ae n t D j).1.2.2 y.1 y.2=(img (Ae n t D j).1.1 (Ae n t D j).1.2.1 0 (Ae n t D j).1.2.2 y,0)/\Al (img (Ae n t D j).1.1 (Ae n t D j).1.2.1 0 (Ae n t D j).1.2.2 y).1 (img (Ae n t D j).1.1 (Ae n t D j).1.2.1 0 (Ae n t D j).1.2.2 y).2=0/\(img (Ae n t D j).1.1 (Ae n t D j).1.2.1 0 (Ae n t D j).1.2.2 y).1.natAbs<=1073741824/\(img (Ae n t D j).1.1 (Ae n t D j).1.2.1 0 (Ae n t D j).1.2.2 y).2.natAbs<=1073741824:=λj Z=>Hy (nR j Z).1 (by omega) qR rH rI (by omega)
   have aN:∀j,j<m->∀l,hq (N2 S (wt+1) (Ae n t D j) l)<=4000:=λj Z l=>by
    have J:=nR j Z;have h2:=J.1.a0;have h3:=J.1.bd;have h4:=J.1.ad;have h5:(Ae n t D j).1.1*1<=(Ae n t D j).1.1*(Ae n t D j).1.2.2:=Nat.mul_le_mul_left _ (by omega);have h6:1*(Ae n t D j).1.2.2<=(Ae n t D j).1.1*(Ae n t D j).1.2.2:=Nat.mul_le_mul_right _ h2
    have h7:hq (subst S wt ((Ae n t D j).1.2.2:Nat) (-((Ae n t D j).1.2.1:Nat)) (-0) ((Ae n t D j).1.1:Nat) (wt+1) l)<=4000:=by
     rw[<-hS];exact Vr hJ hL.bA hL.bB hL.bC hL.bE (by omega) (by omega) (by omega) (by omega) l
    have h8:=eQ J.2 (subst S wt ((Ae n t D j).1.2.2:Nat) (-((Ae n t D j).1.2.1:Nat)) (-0) ((Ae n t D j).1.1:Nat) (wt+1) l);show hq (((Ae n t D j).2:Rat)*subst S (wt+1 - 1) ((Ae n t D j).1.2.2:Nat) (-((Ae n t D j).1.2.1:Nat)) (-0) ((Ae n t D j).1.1:Nat) (wt+1) l)<=4000;rw[Nat.add_sub_cancel];omega
   rw[hS]at dC;simp only[hS]at nS;have wH:=Kh nD;have wI:=Kh nQ;have sF:=Kh aN;have sN:=Kh nS
   have pQ:=Kh (show ∀j,j<m->∀g:Nat->Rat,Pot (Aj n wt D g (N2 S (wt+1) (Ae n t D j))) (D2 y.1 y.2 (Ae n t D j)) - Pot (Aj n wt D g (N2 S (wt+1) (Ae n t D j))) (D2 x.1 x.2 (Ae n t D j))=((Ae n t D j).2:Rat)*clG n wt D g (Ae n t D j).1.1 (Ae n t D j).1.2.1 0 (Ae n t D j).1.2.2 S x y from λj Z g=>by
    rw[show D2 y.1 y.2 (Ae n t D j)=img (Ae n t D j).1.1 (Ae n t D j).1.2.1 0 (Ae n t D j).1.2.2 y from(by unfold D2;rw[(nQ j Z).1]),show D2 x.1 x.2 (Ae n t D j)=img (Ae n t D j).1.1 (Ae n t D j).1.2.1 0 (Ae n t D j).1.2.2 x from(by unfold D2;rw[(nD j Z).1])];exact W9 (nR j Z).1.det0 mE nA)
   have hZ:=Kh (show ∀j,j<m->D2 x.1 x.2 (Ae n t D j)=img (Ae n t D j).1.1 (Ae n t D j).1.2.1 0 (Ae n t D j).1.2.2 x/\D2 y.1 y.2 (Ae n t D j)=img (Ae n t D j).1.1 (Ae n t D j).1.2.1 0 (Ae n t D j).1.2.2 y from λj Z=>⟨by unfold D2;rw[(nD j Z).1],by unfold D2;rw[(nQ j Z).1]⟩);have eY:=cS.1.trans (cB.mono cS.1.size)
   have eT:=Kh (λW (I:Below w6.heap.size w6 W)=>sL.1 W (eY.trans (I.mono eY.size)) S (.slice (some ⟨g6,0,none⟩) (wt+1) eX) x.1 x.2 y.1 y.2 (((dC.keep (λ_=>IsQ.solid _) I).ql eX).isB (λi _=>uI i)) (by omega) (by omega) (by omega) (by omega) (by omega) (by omega) (by omega) (by omega) (λj Z=>by
    unfold tE eZ;rw[(nD j Z).1,(nQ j Z).1];rfl))
   have sC:=Kh eY;have oY:=Kh (hW.1.keep cB);have oS:=Kh (show ∀k,k<R->w6.cell? ⟨gF,k,none⟩=some (.int .i64 ((F.getD k 0:Nat):Int))from λk hk=>Ad cB (pT.1 gF rfl k hk));have pB:=Kh (bk qF cB);obtain⟨x0,uS⟩:∃i,x.1=i:=⟨_,rfl⟩
   obtain⟨x1,pL⟩:∃i,x.2=i:=⟨_,rfl⟩
   obtain⟨y0,uU⟩:∃i,y.1=i:=⟨_,rfl⟩
   obtain⟨y1,pM⟩:∃i,y.2=i:=⟨_,rfl⟩
   rw[uS,pL,uU,pM]at eT pQ hZ ⊢;obtain⟨L1,tL⟩:∃L1,wt+1=L1:=⟨_,rfl⟩
   have oU:=Kh tL;rw[tL]at eT sF pQ ⊢;clear hL qQ rF rG qR rH rI mE nA nS hx hy hS uI nR nD nQ aN dC eY uS pL uU pM c0 xG cB oV hW pT qF cS hJ uM xP;go_upto_region 10 with(fail)
   obtain⟨w7,uQ,P7,mB⟩:=bx1 w6 #[.slice (some ⟨g6,0,none⟩) L1 eX,.int .i64 x0,.int .i64 x1,.int .i64 y0,.int .i64 y1] 57;rw[uQ];obtain⟨gp,tX⟩:∃x,w6.heap.size=x:=⟨_,rfl⟩
   rw[tX]at P7 ⊢;have oT:=Kh (λW (I:Below w7.heap.size w7 W)=>eT.1 W (mB.trans (I.mono mB.size)));have hP:=bt sC mB;have pA:=Kh (λW (I:Below w7.heap.size w7 W)=>wR.1 W (hP.1.trans (I.mono hP.1.size)));have hO:=Kh mB;have p0:=P7.at_ 0 rfl;have p1:=P7.at_ 1 rfl;have p2:=P7.at_ 2 rfl;have p3:=P7.at_ 3 rfl;have p4:=P7.at_ 4 rfl;clear uQ P7 mB tX eT;go_upto_region 12 with(fail)
   refine kX [5,6,7,8,9] (λW=>W.cell? ⟨gp,0,none⟩=some (.slice (some ⟨g6,0,none⟩) L1 eX)/\W.cell? ⟨gp,1,none⟩=some (.int .i64 x0)/\W.cell? ⟨gp,2,none⟩=some (.int .i64 x1)/\W.cell? ⟨gp,3,none⟩=some (.int .i64 y0)/\W.cell? ⟨gp,4,none⟩=some (.int .i64 y1)) (λW I=>⟨Av I p0,Av I p1,Av I p2,Av I p3,Av I p4⟩) (λoF hHeld0=>?_);clear p0 p1 p2 p3 p4;refine Dh 0 ?_;refine Dh 2 ?_;refine Dh 3 ?_;refine lB 1 rfl (λK hK=>?_);focus(go_simp;refine(pA.1 _ (Below.refl _ w7).drew).mono ?_;rintro e w8 ⟨rfl,gS⟩;have eF:=Kh ((Below.refl _ w7).drew.trans gS:Below w7.heap.size w7 w8);clear gS;(first|with_reducible refine hK.out _ _ ?_ (λhHeld1=>?_) |(go_wp2_with fail;with_reducible refine hK.out _ _ ?_ (λhHeld1=>?_))))
   focus((try dsimp only);exact oF.1 _ eF.1)
   focus(clear hK K;(try simp only[Act.put,Bn,Bp,Bo]))
   refine kZ 4 rfl (λK hK=>?_);focus(go_simp;refine(oT.1 _ eF.1).mono ?_;rintro e w9 ⟨⟨BI,xF,uH⟩,gU⟩;obtain⟨_,vI,rfl,uB⟩:=uH.resolve_left (λh=>h.1 rfl);obtain⟨pI,cI,rfl,uG⟩:=uB.read;have hQ:=bt eF gU;have oW:=Kh uG;clear uH uB uG gU xF;(first|with_reducible refine hK.out _ _ ?_ |(go_wp2_with fail;with_reducible refine hK.out _ _ ?_)))
   clear hK K
   (try simp only[Act.put,Bn,Bp,Bo])
   refine dW 5 ?_;refine dW 6 ?_;refine dW 7 ?_;refine dW 8 ?_;refine dW 9 ?_;refine kA ?_;have gA:=hO.1.trans (hQ.1.mono hO.1.size);have aX:=Kh (hP.1.trans (hQ.1.mono hP.1.size));have oZ:=Kh (oY.1.keep gA);have eP:=Kh (show ∀k,k<R->w9.cell? ⟨gF,k,none⟩=some (.int .i64 ((F.getD k 0:Nat):Int))from λk hk=>Ad gA (oS.1 k hk));have pC:=Kh (bk pB gA);rw[xO]at oW ⊢;clear gA oY oS pB hQ eF hO hP sC oT pA oF hHeld0;go_wp2_with fail
   refine(oC.1 w9 aX.1).mono ?_;rintro e w' ⟨rfl,cG⟩;obtain rfl:w9=w':=cG.symm;clear cG;go_wp2_with fail
   have oN:=QRow.made (λ_=>IsQ (((0:Int)):Rat)) w9 R;obtain⟨wy,rE⟩:∃wy,w9.alloc (.cells (madeCells #[.bool false,.slice none 0 0,.bool false,.slice none 0 0] (R*4)) 86)=wy:=⟨_,rfl⟩
   have qP:Below w9.heap.size w9 wy:=rE▸(Below.refl _ _).alloc (nL _) _;rw[rE]at oN ⊢;obtain⟨G,hG⟩:∃g,w9.heap.size=g:=⟨_,rfl⟩
   have pU:=Kh (show ∀W,Below G w9 W->Below w9.heap.size w9 W from λW I=>hG▸I);have yT:=Kh (show w9.heap.size<=G from Nat.le_of_eq hG);rw[hG]at oN qP ⊢;have sS:=Kh oN;have sD:=Kh qP;clear oN qP rE hG;go_loopw [66] (λii wr=>∃k:Nat,k<=R/\ii=.int .i64 k/\QRow (λ_=>IsQ (((0:Int)):Rat)) wr G R k/\Below G w9 wr) (λii _=>R - (intOf ii).toNat)
   case atStart=>exact⟨0,Nat.zero_le _,rfl,sS.1,sD.1⟩
   case round=>
    obtain⟨k,hk,rfl,U,mC⟩:=hrel;obtain⟨wk,rfl⟩:∃wk:World,wk=wr:=⟨_,rfl⟩
    have V:=Kh U;have pP:=Kh mC;clear U mC sS sD;by_cases hlk:k<R
    ·have xL:(k:Int)<(R:Int):=by omega
     go_wp2_with fail
     refine(Du 0 wk (by omega) (by omega)).mono ?_;rintro e w8 ⟨⟨s6,p6,n6,c6,t6,q6,m6,d6,rfl,uE⟩,gS⟩;have O:=V.1.keep (λ_=>IsQ.solid _) gS;have hV:=Kh (QRow.set (k':=k+1) (λ_=>IsQ.solid _) O k hlk (λ_=>IsQ (((0:Int)):Rat)) (IsQ.solid _) (λi J h2=>⟨by omega,rfl⟩) (show IsQ (((0:Int)):Rat) w8 s6 p6 n6 c6 t6 q6 m6 d6 from uE));have vY:=Kh (pP.1.trans (gS.mono (Nat.le_of_lt V.1.sts.1)));obtain⟨u0,oO⟩:=nP (O.has (k*4) (by omega));obtain⟨u1,oP⟩:=nP (O.has (k*4+1) (by omega));obtain⟨u2,hu2⟩:=nP (O.has (k*4+2) (by omega));obtain⟨u3,zH⟩:=nP (O.has (k*4+3) (by omega));have f0:=O.free (k*4) (by omega);have f1:=O.free (k*4+1) (by omega);have f2:=O.free (k*4+2) (by omega);have f3:=O.free (k*4+3) (by omega);clear gS O uE;go_wp2;go_roundw
     case rel=>exact⟨k+1,by omega,by go_num,hV.1,A3 vY.1⟩
     case measure=>simp[intOf];omega
    ·obtain rfl:R=k:=by omega
     clear hlk hk;have sT:=Kh (show QRow (λq=>IsQ (coS n t wt D (λj=>X j (F.getD q 0)) S x y 0)) wk G R R from QRow.congr V.1 (λq _=>rfl));clear V;go_wp2_with fail
     go_loopw [76] (λii wr=>∃l:Nat,l<=m/\ii=.int .i64 l/\QRow (λq=>IsQ (coS n t wt D (λj=>X j (F.getD q 0)) S x y l)) wr G R R/\(∀q,q<R->hq (coS n t wt D (λj=>X j (F.getD q 0)) S x y l)<=1+l*430000001)/\Below G w9 wr) (λii _=>m - (intOf ii).toNat)
     case atStart=>exact⟨0,Nat.zero_le _,rfl,sT.1,λq _=>(by show hq (((0:Int)):Rat)<=1+0*430000001;rw[Dw,Int.natAbs_zero,Cr];omega),pP.1⟩
     case round=>
      obtain⟨l,hl,rfl,U,uJ,mC⟩:=hrel;obtain⟨wl,rfl⟩:∃wl:World,wl=wr:=⟨_,rfl⟩
      have V:=Kh U;have hX:=Kh uJ;have gN:=Kh mC;clear U uJ mC sT pP;by_cases hll:l<m
      ·have zD:(l:Int)<(m:Int):=by omega
       obtain⟨gI,gt,iL,rfl,xI,i0,i1,i2,i3,i4,qZ⟩:=(oW.1 l hll).keep (pU.1 wl gN.1);rw[(hZ.1 l hll).1]at i1 i2;rw[(hZ.1 l hll).2]at i3 i4;obtain⟨_,nB,bx1,bx2⟩:=wH.1 l hll;obtain⟨_,nC,qI,qJ⟩:=wI.1 l hll;have hB:=pQ.1 l hll;rw[(hZ.1 l hll).1,(hZ.1 l hll).2]at hB;have aN:=sF.1 l hll;obtain⟨u,hu⟩:∃u,img (Ae n t D l).1.1 (Ae n t D l).1.2.1 0 (Ae n t D l).1.2.2 x=u:=⟨_,rfl⟩
       obtain⟨v,hv⟩:∃v,img (Ae n t D l).1.1 (Ae n t D l).1.2.1 0 (Ae n t D l).1.2.2 y=v:=⟨_,rfl⟩
       rw[hu]at i1 i2 nB bx1 bx2;rw[hv]at i3 i4 nC qI qJ;simp only[hu,hv]at hB;obtain⟨PF,qM⟩:∃PF,N2 S L1 (Ae n t D l)=PF:=⟨_,rfl⟩
       rw[qM]at aN qZ;simp only[qM]at hB;obtain⟨u0,oO⟩:∃i,u.1=i:=⟨_,rfl⟩
       obtain⟨u1,oP⟩:∃i,u.2=i:=⟨_,rfl⟩
       obtain⟨v0,rC⟩:∃i,v.1=i:=⟨_,rfl⟩
       obtain⟨v1,hv1⟩:∃i,v.2=i:=⟨_,rfl⟩
       have uN:u=(u0,u1):=by rw[<-oO,<-oP]
       have uO:v=(v0,v1):=by rw[<-rC,<-hv1]
       rw[oO]at i1 nB bx1;rw[oP]at i2 nB bx2;rw[rC]at i3 nC qI;rw[hv1]at i4 nC qJ;simp only[uN,uO]at hB;have hU:=Kh hB;have sW:=Kh qZ;have pR:=Kh (And.intro nB nC);have pE:=aX.1.trans ((pU.1 wl gN.1).mono aX.1.size);have hM:=Kh pE;have oR:=Kh (λW (I:Below w.heap.size w W) vq xR=>wB.1 W I vq PF u0 u1 v0 v1 xR (λj _=>aN j) (by omega) (by omega) (by omega) (by omega) (by omega) (by omega) (by omega) (by omega));clear hB qZ nB nC bx1 bx2 qI qJ aN hu hv oO oP rC hv1 uN uO qM pE xI;go_upto_region 24 with(fail)
       obtain⟨we,uR,PE,oM⟩:=bx1 wl #[.slice (some ⟨gt,0,none⟩) L1 iL,.int .i64 u0,.int .i64 u1,.int .i64 v0,.int .i64 v1] 57;rw[uR];obtain⟨gq,tY⟩:∃x,wl.heap.size=x:=⟨_,rfl⟩
       rw[tY]at PE ⊢;have q0:=PE.at_ 0 rfl;have q1:=PE.at_ 1 rfl;have q2:=PE.at_ 2 rfl;have q3:=PE.at_ 3 rfl;have q4:=PE.at_ 4 rfl;have eG:=Kh oM;have nV:=(sW.1.keep (λ_=>IsQ.solid _) oM).ql iL;rw[<-oU.1]at nV;have mD:=oR.1 we (hM.1.trans (oM.mono hM.1.size)) (.slice (some ⟨gt,0,none⟩) (wt+1) iL) nV;rw[oU.1]at mD;have sE:=Kh mD;clear uR PE oM tY nV mD oR sW i0 i1 i2 i3 i4 hM;go_wp2_with fail
       refine sE.1.mono ?_;rintro e wv ⟨tT,tR⟩
       obtain⟨_,gv,rfl,xJ,rA,nW⟩:=tT.resolve_left (λh=>by
        rcases h.1 with J|J
        ·exact J pR.1.1
        ·exact J pR.1.2)
       rw[pZ.1]at rA nW ⊢;obtain⟨Y,hY⟩:∃Y:Nat->Rat,(λq=>((Ae n t D l).2:Rat)*clG n wt D (λj=>X j (F.getD q 0)) (Ae n t D l).1.1 (Ae n t D l).1.2.1 0 (Ae n t D l).1.2.2 S x y)=Y:=⟨_,rfl⟩
       have oK:∀q,((Ae n t D l).2:Rat)*clG n wt D (λj=>X j (F.getD q 0)) (Ae n t D l).1.1 (Ae n t D l).1.2.1 0 (Ae n t D l).1.2.2 S x y=Y q:=λq=>congrFun hY q
       obtain⟨SF,tO⟩:∃SF:Nat->Rat,(λq=>coS n t wt D (λj=>X j (F.getD q 0)) S x y l)=SF:=⟨_,rfl⟩
       have mA:∀q,coS n t wt D (λj=>X j (F.getD q 0)) S x y l=SF q:=λq=>congrFun tO q
       have sZ:=Kh (show ∀q,coS n t wt D (λj=>X j (F.getD q 0)) S x y (l+1)=SF q+1*Y q from λq=>by
        rw[Rat.one_mul,<-oK,<-mA];rfl)
       have gL:=eG.1.trans (tR.mono eG.1.size);have wP:=Kh (show QRow (λq=>IsQ (Y q)) wv gv R R from rA.congr (λq _=>by rw[hU.1,oK]))
       have tA:=Kh (show ∀q,q<R->hq (Y q)<=430000000 from λq hq=>by
        have J:=nW q hq;rw[hU.1,oK]at J;exact J)
       have wQ:=Kh (show ∀q,q<R->hq (SF q)<=12100000000 from λq hq=>by
        have J:=hX.1 q hq;rw[mA]at J;have h2:l*430000001<=28*430000001:=Nat.mul_le_mul_right _ (by omega);omega)
       have qC:=Kh (show ∀q,q<R->hq (SF q+1*Y q)<=1+(l+1)*430000001 from λq hq=>by
        have h3:=C8 (λj=>((Ae n t D j).2:Rat)*clG n wt D (λi=>X i (F.getD q 0)) (Ae n t D j).1.1 (Ae n t D j).1.2.1 0 (Ae n t D j).1.2.2 S x y) 430000000 (l+1);have J:=hX.1 q hq;rw[mA]at J;have h2:=tA.1 q hq;rw[Rat.one_mul];have h4:=H8 (SF q) (Y q);rw[Nat.add_mul];omega)
       have sX:=Kh (show QRow (addQ SF Y 1 0) wv G R R from QRow.congr (V.1.keep (λ_=>IsQ.solid _) gL) (λq _=>by unfold addQ;rw[if_neg (Nat.not_lt_zero q),mA]));have sQ:=Kh (show gv≠G by have J:=V.1.sts.1;have h2:=eG.1.size;omega);have wA:=Kh (gN.1.trans (gL.mono (Nat.le_of_lt V.1.sts.1)));have wF:=Kh (show G<=wv.heap.size by have J:=V.1.sts.1;have h2:=gL.size;omega);clear tT tR xJ rA nW hY oK tO mA gL V hX gN eG sE pR hU q0 q1 q2 q3 q4;go_wp2_with fail
       go_loopw [92] (λii wr=>∃k:Nat,k<=R/\ii=.int .i64 k/\QRow (addQ SF Y 1 k) wr G R R/\wv.grownBy wr (some G)/\I32 wv wr) (λii _=>R - (intOf ii).toNat)
       case atStart=>exact⟨0,Nat.zero_le _,rfl,sX.1,Ag G (Below.refl _ _),I32.refl _⟩
       case round=>
        obtain⟨k,hk,rfl,U,cX,tI⟩:=hrel;obtain⟨we,rfl⟩:∃we:World,we=wr:=⟨_,rfl⟩
        have bY:=Kh U;have pV:=Kh cX;have rZ:=Kh tI;clear U cX tI sX;by_cases hlt:k<R
        ·have xL:(k:Int)<(R:Int):=by omega
         obtain⟨s',p',rJ,c',t',q',m',d',a0,a1,a2,a3,uD⟩:=(wP.1.val k hlt).butR rZ.1 pV.1 sQ.1;have wL:=Kh (show Qs we s' p' rJ c' t' q' m' d' (Y k)from uD);obtain⟨s5,p5,n5,c5,t5,q5,m5,d5,e0,e1,e2,e3,tU⟩:=addQ.elem bY.1 hlt;have wC:=Kh (show Qs we s5 p5 n5 c5 t5 q5 m5 d5 (SF k)from tU);have hH:=bY.1;have zE:=sQ.1;have zF:G<we.heap.size:=hH.sts.1;clear uD tU;go_upto_region 30 with(fail)
         refine Lg (λW=>W.cell? ⟨gv,k*4,none⟩=some (.bool s')/\W.cell? ⟨gv,k*4+1,none⟩=some (.slice p' rJ c')/\W.cell? ⟨gv,k*4+2,none⟩=some (.bool t')/\W.cell? ⟨gv,k*4+3,none⟩=some (.slice q' m' d')/\W.cell? ⟨G,k*4,none⟩=some (.bool s5)/\W.frozen? ⟨G,k*4,none⟩=false/\W.cell? ⟨G,k*4+1,none⟩=some (.slice p5 n5 c5)/\W.frozen? ⟨G,k*4+1,none⟩=false/\W.cell? ⟨G,k*4+2,none⟩=some (.bool t5)/\W.frozen? ⟨G,k*4+2,none⟩=false/\W.cell? ⟨G,k*4+3,none⟩=some (.slice q5 m5 d5)/\W.frozen? ⟨G,k*4+3,none⟩=false) (λW I=>⟨Av I a0,Av I a1,Av I a2,Av I a3,Av I e0,Ab I (by rw[e0];rfl) (hH.free _ (by omega)),Av I e1,Ab I (by rw[e1];rfl) (hH.free _ (by omega)),Av I e2,Ab I (by rw[e2];rfl) (hH.free _ (by omega)),Av I e3,Ab I (by rw[e3];rfl) (hH.free _ (by omega))⟩) (λoF hHeld0=>?_);clear a0 a1 a2 a3 e0 e1 e2 e3 hH;refine Ap 0 ?_;refine Ap 1 ?_;refine Ap 2 ?_;refine Ap 3 ?_;refine Ap 4 ?_;refine Ap 5 ?_;refine Ap 6 ?_;refine Ap 7 ?_;refine Ap 8 ?_;refine Ap 9 ?_;refine Hq 10 rfl (λK hK=>?_);focus(go_simp;refine(Mx s5 p5 n5 c5 t5 q5 m5 d5 (SF k) s' p' rJ c' t' q' m' d' (Y k) we.drew (wC.1.keep (Below.refl _ we).drew) (wL.1.keep (Below.refl _ we).drew) (by have:=wQ.1 k hlt;omega) (by have:=tA.1 k hlt;omega)).mono ?_;rintro e w4 ⟨⟨s6,p6,n6,c6,t6,q6,m6,d6,rfl,uV⟩,cB⟩;have oB:=Kh ((Below.refl _ we).drew.trans cB:Below we.heap.size we w4);have O:=QRow.keep (λj=>(IsQ.solid _:Bi (addQ SF Y 1 k j))) bY.1 oB.1;have hV:=Kh (addQ.put O hlt (show Qs w4 s6 p6 n6 c6 t6 q6 m6 d6 (SF k+1*Y k)by rw[Rat.one_mul];exact uV));have wD:=Kh (show ∀v0 v1 v2 v3,wv.grownBy ((((w4.setCell ⟨G,k*4,none⟩ v0).setCell ⟨G,k*4+1,none⟩ v1).setCell ⟨G,k*4+2,none⟩ v2).setCell ⟨G,k*4+3,none⟩ v3) (some G)from λ_ _ _ _=>Dr pV.1 oB.1);have H4:=Kh ((rZ.1.trans (I32.below oB.1)).trans (I32.put4 O.sts (k*4) (k*4+1) (k*4+2) (k*4+3) (.bool s6) (.slice p6 n6 c6) (.bool t6) (.slice q6 m6 d6) (NotInt.bool _) (NotInt.slice _ _ _) (NotInt.bool _)));clear uV cB O;(first|with_reducible refine hK.out _ _ ?_ (λhHeld1=>?_) |(go_wp2_with fail;with_reducible refine hK.out _ _ ?_ (λhHeld1=>?_))))
         focus((try dsimp only);exact oF.1 _ oB.1)
         focus(clear hK K;(try simp only[Act.put,Bn,Bp,Bo]))
         refine Ap 11 ?_;refine Le 12 rfl (λK hK=>?_);go_simp
         refine hK.out _ _ ?_;clear hK K
         (try simp only[Act.put,Bn,Bp,Bo])
         all_goals clear bY
         all_goals go_wp2
         all_goals go_roundw
         all_goals first
          | exact⟨k+1,by omega,by go_num,hV.1,wD.1 _ _ _ _,H4.1⟩
          |(simp[intOf];omega)
        ·obtain rfl:R=k:=by omega
         have qA:=Kh (show QRow (λq=>IsQ (coS n t wt D (λj=>X j (F.getD q 0)) S x y (l+1))) we G R R from QRow.congr bY.1 (λq hq=>by unfold addQ;rw[if_pos hq,sZ.1]));have sY:=Kh (show ∀q,q<R->hq (coS n t wt D (λj=>X j (F.getD q 0)) S x y (l+1))<=1+(l+1)*430000001 from λq hq=>by rw[sZ.1];exact qC.1 q hq);have vZ:=Kh (show Below G w9 we from Aq wA.1 pV.1 wF.1 (nL _));go_wp2;go_roundw
         case rel=>exact⟨l+1,by omega,by go_num,qA.1,sY.1,vZ.1⟩
         case measure=>simp[intOf];omega
      ·obtain rfl:m=l:=by omega
       clear hll hl;have cC:=pU.1 wl gN.1
       have qY:∀q,q<R->coS n t wt D (λj=>X j (F.getD q 0)) S x y m=RM i q:=λq hq=>by
        have J:=sN.1 q hq;unfold coG at J;rw[sO.1]at J;exact J
       have qA:=Kh (show QRow (λq=>IsQ (RM i q)) wl G R R from V.1.congr (λq hq=>by rw[qY q hq]))
       have qC:=Kh (show ∀a b,a<i+1->b<R->hq (RM a b)<=12100000000 from λa b ha I=>by
        rcases Nat.lt_or_ge a i with h|h
        ·exact qD.1 a b h I
        ·obtain rfl:a=i:=by omega
         have J:=hX.1 b I;rw[qY b I]at J;have h2:m*430000001<=28*430000001:=Nat.mul_le_mul_right _ tZ;omega)
       obtain⟨xD,qU,uF⟩:=oZ.1.keep cC;have qS:∀k,k<R->wl.cell? ⟨gF,k,none⟩=some (.int .i64 ((F.getD k 0:Nat):Int)):=λk hk=>Ad cC (eP.1 k hk)
       have qE:=Kh (bk pC cC);have oQ:=bt aX cC
       have hE:∀{b:Nat} {i:Int},wl.cell? ⟨b,0,none⟩=some (.int .i64 i)->some b≠Value.ownBlock u6:=λh e=>by
        obtain⟨p',n',c',h3⟩:=(qU.2 _ e.symm).2 0 _ h;cases h3
       have wJ:=Kh (hE (qS 0 (by have:=pX.1;omega)));have wK:=Kh (hE (qE.1.at_ 0 rfl));have pW:=Kh qU;have wO:=Kh uF;have sJ:=Kh qS;have pG:=oQ.1.size;have yK:i<=72:=by omega
       clear cC qY qU uF qS hE V hX gN oZ eP pC aX;go_wp2_with (at_builtin;refine Bk SliceV rfl (.tmp 109) (.tmp 111) _ 30 rfl underlying104 Hj rfl (by decide) w.heap.size i u6 ((List.range i).map λi=>Value.slice (some ⟨xD i,0,none⟩) R R) [.slice (some ⟨G,0,none⟩) R R] rfl pW.1 rfl rfl (kD _ _ _) (by omega) (by omega) pG (lX _ _ _) lW ?_;intro v9 uX nU cD tP;have sV:=Kh (RowsX.push pW.1 wO.1 qA.1 nU cD);have eP:=Kh (show ∀g,some (⟨gF,0,none⟩:Addr)=some ⟨g,0,none⟩->∀k,k<R->uX.cell? ⟨g,k,none⟩=some (.int .i64 ((F.getD k 0:Nat):Int))from λg hg k hk=>by(injection hg with hg;injection hg with hg;subst hg;exact cD.cell (sJ.1 k hk) wJ.1));have tC:=Kh (show Blk uX gr 32 #[.int .i64 0,.int .i64 0,.slice none 0 0]from(cD.block gr qE.1.lt wK.1).trans qE.1);have sA:=Kh (At oQ.1 pW.1.1 cD (nL _) pG);clear nU cD tP)
       go_roundw
       case rel=>exact⟨i+1,by have:=pX.1;omega,by go_num,sV.1,eP.1,qC.1,sA.1,tC.1⟩
       case measure=>simp[intOf];have:=pX.1;omega
  ·obtain rfl:R=i:=by omega
   clear hlt hi;go_wp2_with fail
   refine(oC.1 wx cS.1).mono ?_;rintro e w' ⟨rfl,cG⟩;obtain rfl:wx=w':=cG.symm;clear cG;go_wp2_with fail
   refine(Og RM R R u6 wx hW.1.read (by omega) (by omega) (λa b ha I=>nM (qD.1 a b ha I) (by decide))).mono ?_;rintro e w9 ⟨⟨p9,c9,rfl,qX⟩,gU⟩;have X9:=bk qF gU;have pD:=cS.1.trans (gU.mono cS.1.size);have x0:=X9.at_ 0 rfl;have x1:=X9.at_ 1 rfl;have x2:=X9.at_ 2 rfl;have f0:=X9.free_ 0;have f1:=X9.free_ 1;have f2:=X9.free_ 2;have uK:Stk NotU32 w9 gr:=Stk.of X9 (by intro v hv;simp at hv;rcases hv with rfl|rfl|rfl <;> exact λ_ h=>by cases h);have hE:Stk (λv=>∀b,v≠.bool b) w9 gr:=Stk.of X9 (by intro v hv;simp at hv;rcases hv with rfl|rfl|rfl <;> exact λ_ h=>by cases h);obtain⟨RL,qN⟩:∃x,R*R=x:=⟨_,rfl⟩
   have sU:=Kh qN;rw[qN]at qX ⊢;have sP:=Kh hE;have pS:=Kh (Dm (w:=w9) (R:=gr) (v0:=.int .i64 (R:Int)) (v1:=.int .i64 (R:Int)) (v2:=.slice p9 RL c9) (by rw[x0];rfl) (by rw[x1];rfl) (by rw[x2];rfl));have wG:=Kh (Ji uK (v0:=.int .i64 (R:Int)) (v1:=.int .i64 (R:Int)) (v2:=.slice p9 RL c9) (λ_ h=>by cases h) (λ_ h=>by cases h));have sK:=Kh (((Ar w9 gr 0 (.int .i64 (R:Int))).trans (Ar _ gr 1 (.int .i64 (R:Int)))).trans (Ar _ gr 2 (.slice p9 RL c9)));have aX:=Kh pD;have wN:=Kh qX;clear qX gU pD X9 uK hE qN;go_wp2;have e0:=pS.1.1;have e1:=pS.1.2.1;have e2:=pS.1.2.2;try simp only[Exit.inBlock,Exit.then]
   refine bodyPost_ret (by simp[results,results37,go_sem,e0,e1,e2];try rfl) rfl ?_;exact⟨⟨⟨p9,c9,by rw[sU.1],by rw[sU.1];exact wN.1.boxM sP.1 wG.1 sK.1⟩,qD.1⟩,Aq aX.1 sK.1 aX.1.size (by have:=wE.1;omega)⟩
theorem Ux (N k D:Int):∃I:Bool,(∀W,Calls prog 10 #[.agg #[.int .i64 N,.int .i64 k,.int .i64 D]] W λe w'=>e=.returned (.bool I)/\Below W.heap.size W w')/\(I=false->∀n wt:Nat,N=n->k=(wt:Int)+2->Pl.check N k D=0->cntF n wt<=72):=by
 by_cases hck:Pl.check N k D=0
 ·obtain⟨V,Z,h3,h4,_,_⟩:=Ba hck
  obtain⟨n,rfl⟩:∃n:Nat,N=n:=⟨N.toNat,by omega⟩
  obtain⟨wt,rfl⟩:∃wt:Nat,k=(wt:Int)+2:=⟨(k - 2).toNat,by omega⟩
  refine⟨_,λW=>aV n wt D W hck,λJ M E O U _=>?_⟩;obtain rfl:n=M:=by omega
  obtain rfl:wt=E:=by omega
  have h:=of_decide_eq_false J;unfold cntF;omega
 ·exact⟨false,λW=>Oi N k D W hck,λ_ n wt _ _ h=>absurd h hck⟩
end
section
open Go.RowKit
theorem OwnQ.fromO {F:Nat->FP} {w:World} {B n:Nat} {p:Option Addr} {c:Nat} (h:OwnQ F w B (.slice p n c) n):∀a,p=some a->B<=a.block:=by
 intro a I;rcases h.row with⟨_,E⟩ |⟨g,cap,E,hB,_⟩
 ·injection E with h2
  rw[I]at h2;cases h2
 ·injection E with h2
  rw[I]at h2;injection h2 with h2
  rw[h2];exact hB
end
section
open Go.RowKit Eli Tryz
theorem Np {x:Nat->Int} {E k:Nat} (I:∀k,k<E->-128<=x k/\x k<=127):hq (D5 x E k)<=1:=by
 refine C9 (by omega) (Bf.2 ?_) (Bf.2 ?_)
 ·split
  ·rename_i h
   have:=I k h;omega
  ·decide
 ·omega
theorem Zk (P:Program) (x y z u:Int):∃M,(∀(E:Array TypeId) (t:TypeId) (w:World),(Builtin.max_ E t #[.int .i64 x,.int .i64 y,.int .i64 z,.int .i64 u]).run P w=.ok (.int .i64 M) w)/\x<=M/\y<=M/\z<=M/\u<=M:=by
 refine⟨(λa=>if u > a then u else a) ((λa=>if z > a then z else a) (if y > x then y else x)),λE t w=>by simp[Builtin.max_,Builtin.max2],?_⟩;dsimp only;split <;> split <;> split <;> omega
theorem Zl (P:Program) (x y:Int):∃M,(∀(E:Array TypeId) (t:TypeId) (w:World),(Builtin.min_ E t #[.int .i64 x,.int .i64 y]).run P w=.ok (.int .i64 M) w)/\M<=x/\M<=y:=by
 refine⟨if y<x then y else x,λE t w=>by simp[Builtin.min_,Builtin.min2],?_⟩;split <;> omega
theorem fN (n wt:Nat) (D:Int) (w:World) (U:Tab w) (E:Pl.check n ((wt:Int)+2) D=0) (J:cntF n wt<=72):
  Calls prog 11 #[.agg #[.int .i64 n,.int .i64 ((wt:Int)+2),.int .i64 D]] w λe w'=>(∃M,e=.returned (.tuple #[.pointer (some ⟨M,0,none⟩),.int .i64 0])/\ModR w' M n wt D (frs (Gp n wt D) (cntF n wt)) (cntF n wt) (B6 (Gp n wt D) (cntF n wt) (cntF n wt))/\∀v g,w'.cell? ⟨M,3,none⟩=some v->v.ownBlock=some g->w.heap.size<=g)/\Below w.heap.size w w':=by
 obtain⟨h,h2,h3,h4,_,_⟩:=Ba E;refine(jQ n wt D w U E J).mono ?_;rintro e w' ⟨⟨M,rfl,I,Z⟩,O⟩;exact⟨⟨M,rfl,⟨E,rfl,nM (Gi _ _) J,Z,λj f V I=>nM (Q4 (by omega) J V I) (by omega),λf I=>Td (by omega) I⟩,I.2⟩,O⟩
theorem ModR.box {w w':World} {M n wt R:Nat} {D:Int} {F:List Nat} {C:Nat} {X:Nat->Nat->Rat} {i:Int} {v:Value} (h:ModR w M n wt D F C X) (h0:w.cell? ⟨R,0,none⟩=some (.int .i64 i)) (h2:w.cell? ⟨R,2,none⟩=some v) (hv:∀k z,v≠.int k z) (hf:∀u g,w.cell? ⟨M,3,none⟩=some u->u.ownBlock=some g->g≠R) (aD:I32 w w') (hg:w.grownBy w' (some R)):ModR w' M n wt D F C X:=by
 refine⟨h.check,h.cnt,h.len,?_,h.size,h.rel⟩;have J:=h.mod
 have U:M≠R:=λe=>by
  have:=J.c2;rw[e,h2]at this;injection this with this
  exact hv _ _ this
 have O:∀g i u,g≠R->w.cell? ⟨g,i,none⟩=some u->w'.cell? ⟨g,i,none⟩=some u:=λg i u bB e=>hg.cell e (λE=>by injection E with E;exact bB E)
 obtain⟨u,e3,h3⟩:=J.c3;obtain⟨GR,e4,hG,h4⟩:=J.c4;have bC:=hg.size;refine ModAt.up (B:=w.heap.size) ⟨J.lt,O _ _ _ U J.c0,O _ _ _ U J.c1,O _ _ _ U J.c2,⟨u,O _ _ _ U e3,h3.but hg (λg bA=>hf u g e3 bA)⟩,GR,O _ _ _ U e4,hG,λj hj=>?_⟩ bC;obtain⟨g,e,aN,hq⟩:=h4 j hj
 have aK:GR≠R:=λE=>by
  obtain⟨g0,V,_⟩:=h4 0 (by omega);rw[E,h0]at V;injection V with V
  cases V
 refine⟨g,O _ _ _ aK e,aN,λi f I=>?_⟩
 have aX:g≠R:=λE=>by
  have hl:0<F.length:=by
   rcases Nat.eq_zero_or_pos F.length with h|h
   ·rw[List.getElem?_eq_none (by omega)]at I;cases I
   ·exact h
  obtain⟨s,p,n,c,t,q,m,d,Z,_⟩:=hq 0 (F[0]) (List.getElem?_eq_getElem hl);rw[E,Nat.zero_mul,h0]at Z;injection Z with Z
  cases Z
 exact(hq i f I).butR aD hg aX
theorem WAny.keep {n wt R:Nat} {D q:Int} {F:List Nat} {X:Nat->Nat->Rat} {γ:Nat->M4} {w w':World} {a b:Int} {v:Option Addr} {s c:Nat} {I:Int} (h:WAny n wt R D q F X γ w a b v s c I) (hb:Below w.heap.size w w'):WAny n wt R D q F X γ w' a b v s c I:=
 ⟨h.1,λe=>by
  obtain⟨m,A,B,C,E,J,M,O,U,V,Z,h7,h8⟩:=h.2 e;exact⟨m,A,B,C,E,J,M,O,U,V,Z,h7.keep (λ_=>IsQ.solid _) hb,h8⟩⟩
theorem WAny.i32 {n wt R:Nat} {D q:Int} {F:List Nat} {X:Nat->Nat->Rat} {γ:Nat->M4} {w w':World} {a b:Int} {v:Option Addr} {s c:Nat} {I:Int} (h:WAny n wt R D q F X γ w a b v s c I) (hk:∀f:Nat->Rat,QL (λj=>IsQ (f j)) w (.slice v s c) s->QL (λj=>IsQ (f j)) w' (.slice v s c) s):WAny n wt R D q F X γ w' a b v s c I:=
 ⟨h.1,λe=>by
  obtain⟨m,A,B,C,E,J,M,O,U,V,Z,h7,h8⟩:=h.2 e;subst Z;exact⟨m,A,B,C,E,J,M,O,U,V,rfl,hk _ h7,h8⟩⟩
def CoGood (w':World) (v:Option Addr) (m c:Nat) (p q p' q':Int) (n wt:Nat) (D:Int) (F:List Nat) (X:Nat->Nat->Rat) (Q:Nat->Rat):Prop:=
 (Al p q=0/\Al p' q'=0)/\∃g,v=some ⟨g,0,none⟩/\m=F.length/\c=F.length/\QRow (λj=>IsQ (Pot (Aj n wt D (λi=>X i (F.getD j 0)) Q) (p',q') - Pot (Aj n wt D (λi=>X i (F.getD j 0)) Q) (p,q))) w' g F.length F.length/\∀j,j<F.length->hq (Pot (Aj n wt D (λi=>X i (F.getD j 0)) Q) (p',q') - Pot (Aj n wt D (λi=>X i (F.getD j 0)) Q) (p,q))<=430000000
theorem CoGood.keep {w w':World} {v:Option Addr} {m c:Nat} {p q p' q':Int} {n wt:Nat} {D:Int} {F:List Nat} {X:Nat->Nat->Rat} {Q:Nat->Rat} (h:CoGood w v m c p q p' q' n wt D F X Q) (V:Below w.heap.size w w'):CoGood w' v m c p q p' q' n wt D F X Q:=by
 obtain⟨E,g,I,J,M,O,U⟩:=h;exact⟨E,g,I,J,M,O.keep (λ_=>IsQ.solid _) V,U⟩
theorem CoRet.val {w w':World} {e:Ending} {p q p' q':Int} {n wt:Nat} {D:Int} {F:List Nat} {X:Nat->Nat->Rat} {Q:Nat->Rat} (h:CoRet w w' e p q p' q' n wt D F X Q):
  ∃v m c I,e=.returned (.tuple #[.slice v m c,.int .i64 I])/\(I≠0->m=0)/\(I=0->CoGood w' v m c p q p' q' n wt D F X Q)/\(Al p q=0->Al p' q'=0->I=0):=by
 rcases h with⟨E,I,U,M⟩ |⟨E,g,M,O,J,V⟩
 ·exact⟨none,0,0,I,M,λ_=>rfl,λh=>absurd h U.1,λO J=>by rcases E with E|E;exact absurd O E;exact absurd J E⟩
 ·exact⟨some ⟨g,0,none⟩,F.length,F.length,0,M,λh=>absurd rfl h,λ_=>⟨E,g,rfl,rfl,rfl,J,V⟩,λ_ _=>rfl⟩
theorem Y3 {w W:World} {g L c:Nat} {p:Option Addr} {i j k l:Int} {f:Nat->Rat} (U:(((((w.setCell ⟨g,0,none⟩ (.slice p L c)).setCell ⟨g,1,none⟩ (.int .i64 i)).setCell ⟨g,2,none⟩ (.int .i64 j)).setCell ⟨g,3,none⟩ (.int .i64 k)).setCell ⟨g,4,none⟩ (.int .i64 l))=W) (J:Blk w g 57 #[.slice none 0 0,.int .i64 0,.int .i64 0,.int .i64 0,.int .i64 0]) (hq:QL (λj=>IsQ (f j)) w (.slice p L c) L) (E:∀a,p=some a->a.block=g->False) {B:Nat} {w0:World} (hB:B<=g) (O:Below B w0 w):
  Blk W g 57 #[.slice p L c,.int .i64 i,.int .i64 j,.int .i64 k,.int .i64 l]/\QL (λj=>IsQ (f j)) W (.slice p L c) L/\Below B w0 W:=by
 subst U;have I:Stk NotU32 w g:=Stk.of J (by intro v M;simp at M;rcases M with rfl|rfl|rfl|rfl|rfl <;> exact λ_ h=>by cases h);exact⟨((((J.set_ 0 (.slice p L c)).set_ 1 (.int .i64 i)).set_ 2 (.int .i64 j)).set_ 3 (.int .i64 k)).set_ 4 (.int .i64 l),hq.boxed (λ_=>IsQ.solid _) (I32.path I p L c i j k l) (Jw w g _ _ _ _ _) E,((((O.setCell (p:=⟨g,0,none⟩) hB _).setCell (p:=⟨g,1,none⟩) hB _).setCell (p:=⟨g,2,none⟩) hB _).setCell (p:=⟨g,3,none⟩) hB _).setCell (p:=⟨g,4,none⟩) hB _⟩
theorem ALm.ok {n q:Nat} {A B C E:Int} (h:ALm n q A B C E):jJ n q:=by
 refine⟨q,rfl,h.hq,⟨n / q,h.dv⟩,?_⟩;obtain⟨x,_,I⟩:=h.one
 have J:((Nat.gcd q (n / q):Nat):Int)∣1:=by
  rw[<-I];exact Int.dvd_sub (Int.dvd_trans (Int.natCast_dvd_natCast.2 (Nat.gcd_dvd_left ..)) (Int.dvd_mul_right _ _)) (Int.dvd_trans (Int.natCast_dvd_natCast.2 (Nat.gcd_dvd_right ..)) (Int.dvd_mul_left _ _))
 have M:Nat.gcd q (n / q)∣1:=by exact_mod_cast J
 exact Nat.dvd_one.1 M
theorem Y8 {xa:Nat->Int} {la wt:Nat} {a b c d:Int} (h:∀j,hq (D5 xa la j)<=4) (O:wt<=22) (E:a.natAbs<=100000000) (I:b.natAbs<=100000000) (J:c.natAbs<=100000000) (M:d.natAbs<=100000000) (j:Nat):hq (subst (D5 xa la) wt d (-b) (-c) a (wt+1) j)<=4000:=
 Cm (K:=4) (λi _=>h i) (Df (by omega) (by omega)) (Df (by omega) (by omega)) (Df (by omega) (by omega)) (Df (by omega) (by omega)) (by omega) (by omega)
end
end Go.Proofs.YtenlbhlllgppmaaGreatDoor
