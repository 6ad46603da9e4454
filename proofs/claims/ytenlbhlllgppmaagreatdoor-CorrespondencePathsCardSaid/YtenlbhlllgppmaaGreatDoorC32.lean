/- paths.Symbol. -/
import Derived.Test.YtenlbhlllgppmaaGreatDoorC31
set_option linter.unusedSimpArgs false
set_option maxRecDepth 100000
set_option maxHeartbeats 8000000
namespace Go.Proofs.YtenlbhlllgppmaaGreatDoor
section
open Go.RowKit Eli Tryz
theorem J9 {p q:Int} (h:Al p q=0):Cu (p,q):=by
 obtain⟨_,⟨J,M⟩,I⟩:=cuspE_zero h;unfold Al at h;split at h
 ·omega
 ·rename_i h6
  split at h
  ·omega
  ·rename_i h7
   exact⟨⟨by show 0<=q;omega,λE=>by have O:q=0:=E;show p=1;omega⟩,I⟩
theorem Mm {a b c d p q:Int} (E:a*d - b*c≠0) (V:Al p q=0) (h1:(a*p+b*q).natAbs<=1073741824) (h2:(c*p+d*q).natAbs<=1073741824):
  Cg a b c d p q=(img a b c d (p,q),0)/\Al (img a b c d (p,q)).1 (img a b c d (p,q)).2=0/\(img a b c d (p,q)).1.natAbs<=(a*p+b*q).natAbs/\(img a b c d (p,q)).2.natAbs<=(c*p+d*q).natAbs:=by
 obtain⟨k,x,y,hk,hg,e1,e2,I,⟨J,M⟩,O,U⟩:=Ef (Fu E (J9 V));have hi:img a b c d (p,q)=(x,y):=I;have Z:Hp x=true:=Dl.2 (by dsimp only at O;omega);have h:Hp y=true:=Dl.2 (by dsimp only at U;omega);rw[hi];refine⟨?_,?_,O,U⟩
 ·unfold Cg
  dsimp only at I;rw[if_neg (by simp[V]),I,if_pos ⟨Z,h⟩]
 ·unfold Al
  rw[if_neg (by rw[Z,h];simp;exact J),if_neg (by rw[hg];simp;exact M)]
theorem gK:Al 0 1=0:=by decide
theorem gM:Al 1 0=0:=by decide
theorem P4 {A B C E:Int} (M:A*E - B*C=1) (bA:-20000<=A/\A<=20000) (bB:-20000<=B/\B<=20000) (bC:-20000<=C/\C<=20000) (bE:-20000<=E/\E<=20000):
  (Cg A B C E 0 1=(img A B C E (0,1),0)/\Al (img A B C E (0,1)).1 (img A B C E (0,1)).2=0/\(img A B C E (0,1)).1.natAbs<=20000/\(img A B C E (0,1)).2.natAbs<=20000) /\
  (Cg A B C E 1 0=(img A B C E (1,0),0)/\Al (img A B C E (1,0)).1 (img A B C E (1,0)).2=0/\(img A B C E (1,0)).1.natAbs<=20000/\(img A B C E (1,0)).2.natAbs<=20000):=by
 have I:=Mm (a:=A) (b:=B) (c:=C) (d:=E) (by omega) gK (by omega) (by omega);have J:=Mm (a:=A) (b:=B) (c:=C) (d:=E) (by omega) gM (by omega) (by omega);refine⟨⟨I.1,I.2.1,?_,?_⟩,J.1,J.2.1,?_,?_⟩
 ·have:=I.2.2.1;omega
 ·have:=I.2.2.2;omega
 ·have:=J.2.2.1;omega
 ·have:=J.2.2.2;omega
theorem Df {a:Int} (E:-1000000000000<=a) (I:a<=1000000000000):nd a.natAbs<=2:=Bf.2 (by omega)
theorem Nc (i j:Nat):hq (mono i j)<=1:=by
 unfold mono;split
 ·decide
 ·decide
noncomputable def symP (wt t:Nat) (A B C E:Int):Nat->Rat:=subst (mono t) wt E (-B) (-C) A (wt+1)
theorem Vq {wt t:Nat} {A B C E:Int} (I:wt<=22) (bA:-1000000000000<=A/\A<=1000000000000) (bB:-1000000000000<=B/\B<=1000000000000) (bC:-1000000000000<=C/\C<=1000000000000) (bE:-1000000000000<=E/\E<=1000000000000) (j:Nat):hq (symP wt t A B C E j)<=4000:=
 Cm (K:=4) (λi _=>nM (Nc t i) (by decide)) (Df bE.1 bE.2) (Df (by omega) (by omega)) (Df (by omega) (by omega)) (Df bA.1 bA.2) (by omega) (by omega)
theorem fO (M n wt:Nat) (D:Int) (F:List Nat) (C0:Nat) (X:Nat->Nat->Rat) (j q t:Nat) (w:World) (hT:Tab w) (hM:ModR w M n wt D F C0 X) (hj:j<(wt+1)*(pts n (n*n)).length) (hq:j % (pts n (n*n)).length=q) (ht:j / (pts n (n*n)).length=t):
  Calls prog 61 #[.pointer (some ⟨M,0,none⟩),.int .i64 j] w λe w'=>(∃(A B C E:Int) (g cap:Nat),e=.returned (.tuple #[.agg #[.slice (some ⟨g,0,none⟩) (wt+1) cap,.int .i64 (img A B C E (0,1)).1,.int .i64 (img A B C E (0,1)).2,.int .i64 (img A B C E (1,0)).1,.int .i64 (img A B C E (1,0)).2],.int .i64 0])/\LiftOf n q A B C E/\w.heap.size<=g/\QRow (λi=>IsQ (symP wt t A B C E i)) w' g (wt+1) (wt+1))/\Below w.heap.size w w':=by
 obtain⟨h1,h2,h3,h4,h5,h6⟩:=Ba hM.check
 have oS:0<(pts n (n*n)).length:=by
  rcases Nat.eq_zero_or_pos (pts n (n*n)).length with h|h
  ·rw[h,Nat.mul_zero]at hj;omega
  ·exact h
 have hQ:q<(pts n (n*n)).length:=by rw[<-hq];exact Nat.mod_lt _ oS
 have hR:t<wt+1:=by rw[<-ht];exact Nat.div_lt_of_lt_mul (by rw[Nat.mul_comm];exact hj)
 obtain⟨a,ha⟩:∃a,(pts n (n*n)).getD q 0=a:=⟨_,rfl⟩
 obtain⟨u,hu⟩:∃u,a / n=u:=⟨_,rfl⟩
 obtain⟨v,hv⟩:∃v,a % n=v:=⟨_,rfl⟩
 have oG:=Kh (λW (hb:Below w.heap.size w W)=>Mt M w.heap.size n ((wt:Int)+2) D F C0 X W (hM.mod.keep (nL _) hb) hb.size);have nW:=Kh (λW (hb:Below w.heap.size w W)=>fM n wt D j q t a u v W (hT.below hb) hM.check hj hq ht ha hu hv);have nR:=Kh (λW=>aU n q a u v W (by omega) (by omega) hQ ha hu hv);have nS:=Kh (λW=>fK n q W (by omega) (by omega) hQ);have rN:0<n:=by omega
 have qC:n<=120:=by omega
 have rS:wt<=22:=by omega
 have oY:=G4 (wt+1) (by omega);clear hT hM hj hq ht ha hu hv h1 h2 h3 h4 h5 h6 oS hQ;go_enter func61,ntmps61
 go_wp2_with fail
 obtain⟨w0,pB,X0,oT⟩:=bx1 w #[.slice none 0 0,.int .i64 0,.int .i64 0,.int .i64 0,.int .i64 0] 57;rw[pB];obtain⟨gr,hI⟩:∃x,w.heap.size=x:=⟨_,rfl⟩
 have cB:=Kh (show w.heap.size<=gr by omega);rw[hI]at X0;try rw[hI]
 have oH:=Kh X0;have eY:=Kh oT;clear pB X0 oT hI;refine(oG.1 w0 eY.1).mono ?_;rintro e w1 ⟨rfl,hB⟩;have oI:=Kh (bk oH hB);have mB:=bt eY hB;clear hB oH eY oG;go_wp2_with fail
 obtain⟨w2,pC,S2,hD⟩:=bx1 w1 #[.int .i64 n,.int .i64 ((wt:Int)+2),.int .i64 D] 23;rw[pC];obtain⟨gs,oX⟩:∃x,w1.heap.size=x:=⟨_,rfl⟩
 rw[oX]at S2 ⊢;have oB:=Kh S2;have oJ:=Kh (bk oI hD);have gA:=bt mB hD;clear pC S2 hD oX oI mB;refine(nW.1 w2 gA.1).mono ?_;rintro e w3 ⟨rfl,eG⟩;have oC:=Kh (bk oB eG);have oK:=Kh (bk oJ eG);have mD:=bt gA eG;clear eG oB oJ gA nW;go_upto_region 5 with(fail)
 obtain⟨w4,pD,M4,eP⟩:=bx1 w3 #[.int .i64 (t:Int),.int .i64 (u:Int),.int .i64 (v:Int)] 180;rw[pD];obtain⟨gm,oW⟩:∃x,w3.heap.size=x:=⟨_,rfl⟩
 rw[oW]at M4 ⊢;have nT:=Kh M4;have gP:=Kh (bk oC eP);have oL:=Kh (bk oK eP);have mE:=bt mD eP;have s0:=gP.1.at_ 0 rfl;have k1:=M4.at_ 1 rfl;have k2:=M4.at_ 2 rfl;clear pD M4 eP oW oC oK mD;go_wp2_with fail
 refine(nR.1 w4).mono ?_;rintro e w5 ⟨rfl,cG⟩;have nU:=Kh (bk nT cG);have gS:=Kh (bk gP cG);have oM:=Kh (bk oL cG);have nA:=bt mE cG;clear s0 k1 k2 cG nT gP oL mE nR;have s0:=gS.1.at_ 0 rfl;go_wp2_with fail
 refine(nS.1 w5).mono ?_;rintro e w6 ⟨⟨A,B,C,E,rfl,hL⟩,cI⟩;have nV:=Kh (bk nU cI);have oD:=Kh (bk gS cI);have oN:=Kh (bk oM cI);have nB:=bt nA cI;have HL:=Kh hL;clear s0 cI hL nU gS oM nA nS;go_upto_region 11 with(fail)
 obtain⟨w7,pE,G7,cM⟩:=bx1 w6 #[.int .i64 A,.int .i64 B,.int .i64 C,.int .i64 E] 63;rw[pE];obtain⟨gg,oV⟩:∃x,w6.heap.size=x:=⟨_,rfl⟩
 rw[oV]at G7 ⊢;have gI:=Kh G7;have gN:=Kh (bk nV cM);have oE:=Kh (bk oD cM);have gU:=Kh (bk oN cM);have gF:=bt nB cM;clear pE G7 cM oV nV oD oN nB;have s1:=oE.1.at_ 1 rfl;obtain⟨L,hL⟩:∃L,wt+1=L:=⟨_,rfl⟩
 have pZ:(wt:Int)+2 - 1=(L:Int):=by omega
 rw[hL]at oY hR;have dE:=Kh hL;have qA:L<=23:=by omega
 clear hL;go_wp2_with fail
 have eT:=QRow.made (λ_=>IsQ (((0:Int)):Rat)) w7 L;obtain⟨wy,hS⟩:∃wy,w7.alloc (.cells (madeCells #[.bool false,.slice none 0 0,.bool false,.slice none 0 0] (L*4)) 86)=wy:=⟨_,rfl⟩
 have hE:Below w7.heap.size w7 wy:=hS▸(Below.refl _ _).alloc (nL _) _;rw[hS]at eT ⊢;obtain⟨V,hH⟩:∃g,w7.heap.size=g:=⟨_,rfl⟩
 have gL:=Kh hH;rw[hH]at eT hE ⊢;have nX:=Kh eT;have nD:=Kh hE;clear eT hE hS hH s1 oY pZ;go_loopw [12,59] (λ_ ii wr=>∃k:Nat,k<=L/\ii=.int .i64 k/\QRow (λ_=>IsQ (((0:Int)):Rat)) wr V L k/\Below V w7 wr) (λ_ ii _=>L - (intOf ii).toNat)
 case atStart=>exact⟨0,Nat.zero_le _,rfl,nX.1,nD.1⟩
 case round=>
  obtain⟨k,hk,rfl,J,oU⟩:=hrel;obtain⟨w9,rfl⟩:∃w9:World,w9=wr:=⟨_,rfl⟩
  have cC:=Kh J;have dC:=Kh oU;clear J oU nX nD;by_cases hlt:k<L
  ·have rM:(k:Int)<(L:Int):=by omega
   go_wp2_with fail
   refine(Du 0 w9 (by omega) (by omega)).mono ?_;rintro e w8 ⟨⟨s6,p6,n6,c6,t6,q6,m6,d6,rfl,cX⟩,aX⟩;have O:=cC.1.keep (λ_=>IsQ.solid _) aX;have aD:=Kh (QRow.set (k':=k+1) (λ_=>IsQ.solid _) O k hlt (λ_=>IsQ (((0:Int)):Rat)) (IsQ.solid _) (λi h1 h2=>⟨by omega,rfl⟩) (show IsQ (((0:Int)):Rat) w8 s6 p6 n6 c6 t6 q6 m6 d6 from cX));have aN:=Kh (dC.1.trans (aX.mono (Nat.le_of_lt cC.1.sts.1)));obtain⟨u0,rP⟩:=nP (O.has (k*4) (by omega));obtain⟨u1,rQ⟩:=nP (O.has (k*4+1) (by omega));obtain⟨u2,hu2⟩:=nP (O.has (k*4+2) (by omega));obtain⟨u3,rR⟩:=nP (O.has (k*4+3) (by omega));have f0:=O.free (k*4) (by omega);have f1:=O.free (k*4+1) (by omega);have f2:=O.free (k*4+2) (by omega);have f3:=O.free (k*4+3) (by omega);clear aX O cX;go_wp2;go_roundw
   case rel=>exact⟨k+1,by omega,by go_num,aD.1,A3 aN.1⟩
   case measure=>simp[intOf];omega
  ·obtain rfl:L=k:=by omega
   have x0:=(gN.1.below_ dC.1 (nN gN.1.lt (Nat.le_of_eq gL.1))).at_ 0 rfl;have J:=cC.1;have cS:=J.free;have oA:=Kh (Nat.le_of_lt J.sts.1);obtain⟨s0,p0,n0,c0,t0,q0,m0,d0,a0,a1,a2,a3,_⟩:=J.val t hR;have rO:(t:Int)<(L:Int):=by omega
   clear J;go_upto_region 19 with(fail)
   refine Lg (λW=>W.cell? ⟨gm,0,none⟩=some (.int .i64 (t:Int))/\W.cell? ⟨V,t*4,none⟩=some (.bool s0)/\W.frozen? ⟨V,t*4,none⟩=false/\W.cell? ⟨V,t*4+1,none⟩=some (.slice p0 n0 c0)/\W.frozen? ⟨V,t*4+1,none⟩=false/\W.cell? ⟨V,t*4+2,none⟩=some (.bool t0)/\W.frozen? ⟨V,t*4+2,none⟩=false/\W.cell? ⟨V,t*4+3,none⟩=some (.slice q0 m0 d0)/\W.frozen? ⟨V,t*4+3,none⟩=false) (λW hb=>⟨Av hb x0,Av hb a0,Ab hb (by rw[a0];rfl) (cS (t*4) (by omega)),Av hb a1,Ab hb (by rw[a1];rfl) (cS (t*4+1) (by omega)),Av hb a2,Ab hb (by rw[a2];rfl) (cS (t*4+2) (by omega)),Av hb a3,Ab hb (by rw[a3];rfl) (cS (t*4+3) (by omega))⟩) (λoF hHeld0=>?_);refine Ap 0 ?_;refine Ap 1 ?_;refine Ap 2 ?_;refine Hq 3 rfl (λK hK=>?_);focus(go_simp;refine(Du 1 w9.drew (by omega) (by omega)).mono ?_;rintro e w8 ⟨⟨s6,p6,n6,c6,t6,q6,m6,d6,rfl,cX⟩,aX⟩;have aN:=Kh ((Below.refl _ w9).drew.trans aX:Below w9.heap.size w9 w8);have pA:=cC.1.keep (λ_=>IsQ.solid _) aN.1;have aD:=Kh (QRow.set (k':=L) (λ_=>IsQ.solid _) pA t hR (λq=>IsQ (if q=t then(((1:Int)):Rat)else(((0:Int)):Rat))) (IsQ.solid _) (λi h1 h2=>⟨h1,by rw[if_neg h2]⟩) (by rw[if_pos rfl];exact cX));have nC:=Kh (dC.1.trans (aN.1.mono oA.1));clear aX cX pA;(first|with_reducible refine hK.out _ _ ?_ (λhHeld1=>?_) |(go_wp2_with fail;with_reducible refine hK.out _ _ ?_ (λhHeld1=>?_))))
   focus((try dsimp only);exact oF.1 _ aN.1)
   focus(clear hK K;(try simp only[Act.put,Bn,Bp,Bo]))
   refine Ap 4 ?_;refine Le 5 rfl (λK hK=>?_);go_simp
   refine hK.out _ _ ?_;clear hK K
   (try simp only[Act.put,Bn,Bp,Bo])
   have cT:=aD.1;have U:=A3 (i:=t*4) (j:=t*4+1) (k:=t*4+2) (l:=t*4+3) (v0:=.bool s6) (v1:=.slice p6 n6 c6) (v2:=.bool t6) (v3:=.slice q6 m6 d6) nC.1;obtain⟨hU,eX⟩:∃hU,(((w8.setCell ⟨V,t*4,none⟩ (.bool s6)).setCell ⟨V,t*4+1,none⟩ (.slice p6 n6 c6)).setCell ⟨V,t*4+2,none⟩ (.bool t6)).setCell ⟨V,t*4+3,none⟩ (.slice q6 m6 d6)=hU:=⟨_,rfl⟩
   rw[eX]at cT U ⊢;have hG:∀{g:Nat},g<w7.heap.size->g<V:=λh=>nN h (Nat.le_of_eq gL.1)
   have nY:=Kh (QRow.congr (G:=λi=>IsQ (mono t i)) cT (λi _=>by
    unfold mono;congr 1))
   have cD:=Kh (gU.1.below_ U (hG gU.1.lt));have cA:=Kh (gF.1.trans (U.mono (nM gF.1.size (Nat.le_of_eq gL.1))));have bY:=gI.1.below_ U (hG gI.1.lt);have g0:=bY.at_ 0 rfl;have g1:=bY.at_ 1 rfl;have g2:=bY.at_ 2 rfl;have g3:=bY.at_ 3 rfl;clear cT U eX hG bY cS x0 a0 a1 a2 a3 oF hHeld0 hHeld1 aD nC dC cC aN gN oE gU gI gF;have Z:=HL.1;obtain⟨⟨e1,_⟩,e2,_⟩:=P4 Z.det Z.bA Z.bB Z.bC Z.bE;have dY:=Kh (Gt 4 (by decide) (by decide) (.slice (some ⟨V,0,none⟩) L L) L (λi=>(mono t i).num) (λi=>((mono t i).den:Int)) 0 1 1 0 A B C E hU ((nY.1.ql L).isB (λi _=>nM (Nc t i) (by decide))) (by omega) qA (by have:=Z.bA;omega) (by have:=Z.bA;omega) (by have:=Z.bB;omega) (by have:=Z.bB;omega) (by have:=Z.bC;omega) (by have:=Z.bC;omega) (by have:=Z.bE;omega) (by have:=Z.bE;omega) (by rw[Z.det];decide) (by decide) (by decide) (by decide) (by decide) (by decide) (by decide) (by decide) (by decide));have he:eZ A B C E 0 1 1 0=0:=by unfold eZ;rw[e1,e2];rfl
   rw[e1,e2,he,show(λi=>Rat.divInt (mono t i).num ((mono t i).den:Int))=mono t from funext λi=>Rat.num_divInt_den _]at dY;rw[show L - 1=wt by have:=dE.1;omega]at dY;clear Z e1 e2 he;go_wp2_with fail
   refine dY.1.mono ?_;rintro e hV ⟨oZ,cF⟩;obtain⟨_,g,cap,rfl,hg,J⟩:=oZ.resolve_left (λh=>h.1 rfl);obtain⟨i0,hJ⟩:∃i,(img A B C E (0,1)).1=i:=⟨_,rfl⟩
   obtain⟨i1,hN⟩:∃i,(img A B C E (0,1)).2=i:=⟨_,rfl⟩
   obtain⟨i2,hO⟩:∃i,(img A B C E (1,0)).1=i:=⟨_,rfl⟩
   obtain⟨i3,hP⟩:∃i,(img A B C E (1,0)).2=i:=⟨_,rfl⟩
   have pS:=Kh (λW (g cap:Nat) (h1:w.heap.size<=g) (h2:QRow (λi=>IsQ (symP wt t A B C E i)) W g (wt+1) (wt+1))=>(show ∃(A B C E:Int) (g' oP:Nat),Ending.returned (.tuple #[.agg #[.slice (some ⟨g,0,none⟩) (wt+1) cap,.int .i64 i0,.int .i64 i1,.int .i64 i2,.int .i64 i3],.int .i64 0])=.returned (.tuple #[.agg #[.slice (some ⟨g',0,none⟩) (wt+1) oP,.int .i64 (img A B C E (0,1)).1,.int .i64 (img A B C E (0,1)).2,.int .i64 (img A B C E (1,0)).1,.int .i64 (img A B C E (1,0)).2],.int .i64 0])/\LiftOf n q A B C E/\w.heap.size<=g'/\QRow (λi=>IsQ (symP wt t A B C E i)) W g' (wt+1) (wt+1)from⟨A,B,C,E,g,cap,by rw[hJ,hN,hO,hP],HL.1,h1,h2⟩));have nZ:=Kh (show QRow (λi=>IsQ (symP wt t A B C E i)) hV g L L from by unfold symP;rw[dE.1];exact J);have I:=Kh (bk cD cF);have mC:=bt cA cF;have nQ:=Kh (show gr<g/\w.heap.size<=g from⟨nN cD.1.lt hg,nM cA.1.size hg⟩);have z0:=I.1.at_ 0 rfl;have z1:=I.1.at_ 1 rfl;have z2:=I.1.at_ 2 rfl;have z3:=I.1.at_ 3 rfl;have z4:=I.1.at_ 4 rfl;have f0:=I.1.free_ 0;have f1:=I.1.free_ 1;have f2:=I.1.free_ 2;have f3:=I.1.free_ 3;have f4:=I.1.free_ 4;rw[hJ,hN,hO,hP];clear oZ cF hg J dY cD cA g0 g1 g2 g3 hJ hN hO hP;go_wp2;have XS:=((((I.1.set_ 0 (.slice (some ⟨g,0,none⟩) L cap)).set_ 1 (.int .i64 i0)).set_ 2 (.int .i64 i1)).set_ 3 (.int .i64 i2)).set_ 4 (.int .i64 i3);have e0:=XS.at_ 0 rfl;have e1:=XS.at_ 1 rfl;have e2:=XS.at_ 2 rfl;have e3:=XS.at_ 3 rfl;have e4:=XS.at_ 4 rfl;have qE:Stk NotU32 hV gr:=Stk.of I.1 (by intro v hv;simp at hv;rcases hv with rfl|rfl|rfl|rfl|rfl <;> exact λ_ h=>by cases h);have qD:=nZ.1.i32 (λ_=>IsQ.solid _) (I32.path qE (some ⟨g,0,none⟩) L cap i0 i1 i2 i3) (Jw hV gr _ _ _ _ _) (by have:=nQ.1.1;omega);refine bodyPost_ret (by simp[results,results61,go_sem,e0,e1,e2,e3,e4];try rfl) rfl ?_;exact⟨by have h:=pS.1 _ g cap nQ.1.2 (by rw[dE.1];exact qD);rw[dE.1]at h ⊢;exact h,(((((mC.1.setCell (p:=⟨gr,0,none⟩) cB.1 _).setCell (p:=⟨gr,1,none⟩) cB.1 _).setCell (p:=⟨gr,2,none⟩) cB.1 _).setCell (p:=⟨gr,3,none⟩) cB.1 _).setCell (p:=⟨gr,4,none⟩) cB.1 _)⟩
end
section
open Eli
section
variable {n wt:Nat} {D:Int} {Φ:(Nat->Rat)->Int×Int->Int×Int->Rat}
theorem Uw {k:Int} (I:Pl.check n k D=0):Pl.kroP D 1=1:=by
 obtain⟨⟨Z,h⟩,_,⟨M,O⟩,U,V⟩:=Pl.check_ok I;obtain⟨J,E⟩:=Pl.kro_mul (N:=n) (D:=D) (a:=1) (b:=1) (c:=1) (by omega) M O U V (by omega) (by omega) (by omega) (by omega) (by omega) (by omega) (by simp) (by simp) (by simp) (by simp);rcases E with E|E
 ·exact E
 ·rw[E]at J;exact absurd J (by decide)
theorem Uz (M:Pl.check n ((wt:Int)+2) D=0) (aX:PF n wt D Φ) (t:Nat) {A B C E A' B' I J:Int} (h:A*E - B*C=1) (h':A'*J - B'*I=1) (hC:I % n=C % n) (hE:J % n=E % n):
  Φ (symP wt t A' B' I J) (img A' B' I J (0,1)) (img A' B' I J (1,0))=Φ (symP wt t A B C E) (img A B C E (0,1)) (img A B C E (1,0)):=by
 obtain⟨⟨a1,a2⟩,_⟩:=Pl.check_ok M;obtain⟨a,ha⟩:∃a,a=A'*E - B'*C:=⟨_,rfl⟩
 obtain⟨b,hb⟩:∃b,b=B'*A - A'*B:=⟨_,rfl⟩
 obtain⟨c,V⟩:∃c,c=I*E - J*C:=⟨_,rfl⟩
 obtain⟨d,Z⟩:∃d,d=J*A - I*B:=⟨_,rfl⟩
 have O:a*d - b*c=1:=by
  have e:a*d - b*c=(A*E - B*C)*(A'*J - B'*I):=by rw[ha,hb,V,Z];grind
  rw[e,h,h'];rfl
 have d1:(n:Int)∣I - C:=Int.dvd_of_emod_eq_zero (Int.emod_eq_emod_iff_emod_sub_eq_zero.1 hC);have d2:(n:Int)∣J - E:=Int.dvd_of_emod_eq_zero (Int.emod_eq_emod_iff_emod_sub_eq_zero.1 hE)
 have U:(n:Int)∣c:=by
  have e:c=(I - C)*E - (J - E)*C:=by rw[V];grind
  rw[e];exact Int.dvd_sub (Int.dvd_trans d1 (Int.dvd_mul_right _ _)) (Int.dvd_trans d2 (Int.dvd_mul_right _ _))
 have aN:((1:Nat):Int) % n=d % n:=by
  have e:d - 1=(J - E)*A - (I - C)*B:=by rw[Z,<-h];grind
  have h1:(n:Int)∣d - 1:=by
   rw[e];exact Int.dvd_sub (Int.dvd_trans d2 (Int.dvd_mul_right _ _)) (Int.dvd_trans d1 (Int.dvd_mul_right _ _))
  exact(Int.emod_eq_emod_iff_emod_sub_eq_zero.2 (Int.emod_eq_zero_of_dvd h1)).symm
 have hm:=aX.move (symP wt t A B C E) a b c d 1 (img A B C E (0,1)) (img A B C E (1,0)) ⟨O,U⟩ (nL 1) (by omega) (by simp[pun]) aN (Br (by omega) Cu.zero) (Br (by omega) Cu.inf)
 have m1:a*A+b*C=A':=by
  have e:a*A+b*C=A'*(A*E - B*C):=by rw[ha,hb];grind
  rw[e,h,Int.mul_one]
 have m2:a*B+b*E=B':=by
  have e:a*B+b*E=B'*(A*E - B*C):=by rw[ha,hb];grind
  rw[e,h,Int.mul_one]
 have m3:c*A+d*C=I:=by
  have e:c*A+d*C=I*(A*E - B*C):=by rw[V,Z];grind
  rw[e,h,Int.mul_one]
 have m4:c*B+d*E=J:=by
  have e:c*B+d*E=J*(A*E - B*C):=by rw[V,Z];grind
  rw[e,h,Int.mul_one]
 have hs:subst (symP wt t A B C E) wt d (-b) (-c) a (wt+1)=symP wt t A' B' I J:=by
  unfold symP;rw[Lj];have f1:E*d+-B * -c=J:=by rw[<-m4];grind
  have f2:E * -b+-B*a=-B':=by rw[<-m2];grind
  have f3:-C*d+A * -c=-I:=by rw[<-m3];grind
  have f4:-C * -b+A*a=A':=by rw[<-m1];grind
  rw[f1,f2,f3,f4]
 rw[hs,Gz (by omega) (by omega) Cu.zero,Gz (by omega) (by omega) Cu.inf,m1,m2,m3,m4,Uw M]at hm;rw[hm];grind
theorem Wb (J:Pl.check n ((wt:Int)+2) D=0) (M:PF n wt D Φ) {γ:Nat->M4} (O:Io n γ) {j:Nat} (h:j % (pts n (n*n)).length<(pts n (n*n)).length) {A B C E:Int} (I:LiftOf n (j % (pts n (n*n)).length) A B C E):
  Φ (symP wt (j / (pts n (n*n)).length) A B C E) (img A B C E (0,1)) (img A B C E (1,0))=Qe wt (pts n (n*n)).length γ Φ j:=by
 obtain⟨U,V,Z⟩:=O _ h;exact Uz J M _ U I.det (by rw[I.c,V]) (by rw[I.d,Z])
end
theorem Yc {n:Nat} (M:0<n):∃γ,Io n γ:=by
 have J:∀p,p<(pts n (n*n)).length->∃g:M4,g.1*g.2.2.2 - g.2.1*g.2.2.1=1/\g.2.2.1 % n=(((pts n (n*n)).getD p 0 / n:Nat):Int) % n/\g.2.2.2 % n=(((pts n (n*n)).getD p 0 % n:Nat):Int) % n:=by
  intro p E;have O:=Bl E;have I:=Jg (Ij O).1;by_cases hu:(pts n (n*n)).getD p 0 / n=0
  ·refine⟨(1,0,0,1),by decide,by rw[hu];rfl,?_⟩
   rw[Ta M E hu]
   push_cast
   rw[Int.emod_emod_of_dvd _ (Int.dvd_refl _)]
  ·obtain⟨U,hU⟩:∃U,(pts n (n*n)).getD p 0 / n=U:=⟨_,rfl⟩
   obtain⟨V,hV⟩:∃V,(pts n (n*n)).getD p 0 % n=V:=⟨_,rfl⟩
   rw[hU,hV]at I;rw[hU]at hu;rw[hU,hV];obtain⟨K,_,hg⟩:=Sm (show 0<U by omega) I;obtain⟨r,_,q,hq⟩:=Xx (k:=(U:Int)) (d:=((V+K*n:Nat):Int)) (m:=U) (by omega) (by omega) (by rw[Int.gcd_natCast_natCast,Nat.gcd_comm];exact hg);refine⟨((r:Int),q,(U:Int),((V+K*n:Nat):Int)),by show(r:Int)*((V+K*n:Nat):Int) - q*U=1;rw[Int.mul_comm q];omega,rfl,?_⟩;show((V+K*n:Nat):Int) % n=(V:Int) % n
   push_cast
   rw[Int.add_mul_emod_self_right]
 refine⟨λp=>if E:p<(pts n (n*n)).length then Classical.choose (J p E)else(1,0,0,1),λp E=>?_⟩;dsimp only;rw[dif_pos E];exact Classical.choose_spec (J p E)
end
section
open Go.RowKit Eli Tryz
theorem gY (n:Nat) (h:n<=1000000) (w:World):
  (Instr.makeSlice 104 (.int .i64 0) (.int .i64 (n:Int))).run prog w=.ok (.slice (some ⟨w.heap.size,0,none⟩) 0 n) (w.alloc (.cells (madeCells #[.slice none 0 0] n) 30)):=by
 obtain⟨i,M,E,I,J⟩:=info_parts Hj;have hr:=run_make (P:=prog) w 104 30 i _ underlying104 M E .i64 .i64 (0:Nat) n (by omega) (by omega) (by rw[J];omega) (by omega);rw[Int.toNat_natCast,I,Nat.mul_one]at hr;exact hr
theorem RowsOwn.made (F:Nat->Nat->Rat) (C n:Nat) (w:World) (B:Nat) (hB:B<=w.heap.size) (hn:n<=1000000):RowsOwn F 0 C (w.alloc (.cells (madeCells #[.slice none 0 0] n) 30)) B (.slice (some ⟨w.heap.size,0,none⟩) 0 n):=by
 have J:=Blk.new w 30 (madeCells #[.slice none 0 0] n);refine⟨λ_=>0,⟨⟨rfl,.inr ⟨w.heap.size,n,madeCells #[.slice none 0 0] n,rfl,hB,?_,Nat.zero_le _,by simp only[maxLen];omega,by simp[madeCells],rfl⟩⟩,λg hg=>?_⟩,λ_ M=>absurd M (Nat.not_lt_zero _)⟩
 ·exact J
 ·injection hg with hg
  subst hg;refine Stk.of J (λv O=>?_);have E:v∈(madeCells #[.slice none 0 0] n).toList:=by simpa using O
  simp[madeCells]at E;obtain⟨k,_,I⟩:=E;rw[Nat.mod_one]at I;exact⟨none,0,0,I.symm⟩
theorem Qb {P:Program} {W:World} {V:Array Oper} {rest:List Oper} {o:Oper} {a:Act} {Q:Exit->Act->World->Prop} (K:Value->Prop) (aX:o.guard=none) (s x:Operand) (t E:TypeId)
  (ho:o.op=.call { callee:=.builtin .append,args:=#[s,x],argTypes:=#[t,t] }) {z:Value} {sz J:Nat} (hU:P.underlying t=some (.slice E))
  (O:(P.info? E).map (λi=>(i.zero,i.size,i.bytes))=some (some z,sz,J)) (bB:z.cells.size=sz) (bA:0<sz) (B n m g c:Nat) (v:Value) (xs I:List Value)
  (hs:a.eval s=v) (U:OwnK K W B E sz v n xs) (hx:a.eval x=.slice (some ⟨g,0,none⟩) m c) (hn:I.length=m*sz) (M:∀(j:Nat) (u:Value),I[j]?=some u->W.cell? ⟨g,j,none⟩=some u) (h1:∀u∈I,u.oneCell'=true)
  (hb:(n+m)*J<=140737488355328) (hm:n+m<=9223372036854775807) (hB:B<=W.heap.size) (aK:∀u∈I,K u) (aN:∀u∈z.cells.toList,K u)
  (h:∀Z w',OwnK K w' B E sz Z (n+m) (xs++I)->W.grownBy w' v.ownBlock->wpList P V Q rest (a.put o.dst Z) w'):
  wpList P V Q (o :: rest) a W:=by
 obtain⟨Z,w',hr,g1,g2⟩:=Zj (P:=P) K W t o.type E hU O bB bA B n m g c v xs I U hn M h1 hb hm hB aK aN;refine wpList_plain aX λK' aD=>?_
 unfold Oper.wp execOp;simp only[ho,resolve,invoke,builtin,Sem.run_bind,Sem.run_pure,Result.andThen_ok,List.map_toArray,List.map_cons,List.map_nil,hs,hx,hr];exact aD _ _ (h Z w' g1 g2)
def eL (F:Nat->Nat->Rat) (k C:Nat) (w:World) (v:Value):Prop:=∃p c,v=.slice p k c/\(0<k->∃G,p=some ⟨G,0,none⟩/\G<w.heap.size/\∀i,i<k->∃g,w.cell? ⟨G,i,none⟩=some (.slice (some ⟨g,0,none⟩) C C)/\(0<C->QRow (λq=>IsQ (F i q)) w g C C))
def RowsX (F:Nat->Nat->Rat) (k C:Nat) (w:World) (B:Nat) (v:Value):Prop:=
 ∃gs:Nat->Nat,OwnK SliceV w B 30 1 v k ((List.range k).map λi=>Value.slice (some ⟨gs i,0,none⟩) C C)/\(0<C->∀i,i<k->QRow (λq=>IsQ (F i q)) w (gs i) C C)
theorem RowsX.keep {F:Nat->Nat->Rat} {k C:Nat} {w w':World} {B:Nat} {v:Value} (h:RowsX F k C w B v) (E:Below w.heap.size w w'):RowsX F k C w' B v:=by
 obtain⟨gs,I,J⟩:=h;exact⟨gs,I.keep E,λM i O=>(J M i O).keep (λ_=>IsQ.solid _) E⟩
theorem RowsX.push {F:Nat->Nat->Rat} {k C:Nat} {W w':World} {B:Nat} {v M:Value} {gs:Nat->Nat} {g:Nat} (V:OwnK SliceV W B 30 1 v k ((List.range k).map λi=>Value.slice (some ⟨gs i,0,none⟩) C C))
  (Z:0<C->∀i,i<k->QRow (λq=>IsQ (F i q)) W (gs i) C C) (hr:QRow (λq=>IsQ (F k q)) W g C C) (I:OwnK SliceV w' B 30 1 M (k+1) (((List.range k).map λi=>Value.slice (some ⟨gs i,0,none⟩) C C)++[.slice (some ⟨g,0,none⟩) C C])) (hg:W.grownBy w' v.ownBlock):RowsX F (k+1) C w' B M:=by
 rcases Nat.eq_zero_or_pos C with rfl|J
 ·refine⟨λi=>if i<k then gs i else g,?_,λh=>absurd h (Nat.lt_irrefl _)⟩
  have e:((List.range (k+1)).map λi=>Value.slice (some ⟨if i<k then gs i else g,0,none⟩) 0 0)=((List.range k).map λi=>Value.slice (some ⟨gs i,0,none⟩) 0 0)++[.slice (some ⟨g,0,none⟩) 0 0]:=by
   rw[List.range_succ,List.map_append,List.map_singleton,if_neg (Nat.lt_irrefl k)];congr 1;exact List.map_congr_left (λi hi=>by rw[if_pos (List.mem_range.1 hi)])
  rw[e];exact I
 ·obtain⟨E,O,U⟩:=RowsOwn.push (F:=F) J V (Z J) hr I hg
  exact⟨E,O,λ_=>U⟩
theorem RowsX.read {F:Nat->Nat->Rat} {k C:Nat} {w:World} {B:Nat} {v:Value} (h:RowsX F k C w B v):eL F k C w v:=by
 obtain⟨gs,I,O⟩:=h;have U:=I.1;rcases I.1.2 with⟨E,M⟩ |⟨G,cap,cs,E,hB,hg,hn,Z,aD,_⟩
 ·exact⟨none,0,by rw[E,M],λh=>by omega⟩
 ·subst E
  exact⟨_,_,rfl,λ_=>⟨G,rfl,(Array.getElem?_eq_some_iff.1 hg).1,λi J=>⟨gs i,Ai U (by rw[List.getElem?_map,List.getElem?_range J];rfl),λV=>O V i J⟩⟩⟩
theorem Mv (R C RC gA oA cA:Nat) (pA:Option Addr) (X:Nat->Rat) (F:Nat->Nat->Rat) (w:World) (mD:0<RC->pA=some ⟨gA,oA,none⟩/\gA<w.heap.size) (hX:∀j,j<RC->QE (IsQ (X j)) w gA (oA+j*4)) (hE:R*C=RC) (hR:R<=1024) (hC:C<=1024) (hs:∀j,j<RC->hq (X j)<=1000000000000)
  (hF:∀i q,q<C->F i q=X (i*C+q)):
  Calls prog 71 #[.agg #[.int .i64 R,.int .i64 C,.slice pA RC cA]] w λe w'=>(∃G gs,e=.returned (.slice (some ⟨G,0,none⟩) R R)/\GM F R C w' G gs w.heap.size)/\Below w.heap.size w w':=by
 have nV:=Kh mD;have HX:=Kh hX;have HS:=Kh hs;have HF:=Kh hF;have oF:=Kh hE;have qK:RC<=1048576:=by rw[<-hE];exact Nat.mul_le_mul hR hC
 clear mD hX hs hF hE;go_enter func71,ntmps71
 have nA:=gX R (by omega);have pO:=G4 C (by omega);go_wp2_with fail
 obtain⟨wb,hM,X0,hY⟩:=bx1 w #[.int .i64 R,.int .i64 C,.slice pA RC cA] 32;rw[hM];obtain⟨aK,I⟩:=GM.made F C wb R (λ_=>0);obtain⟨wG,hL⟩:∃wG,wb.alloc (.cells (madeCells #[.slice none 0 0] R) 30)=wG:=⟨_,rfl⟩
 have hH:Below wb.heap.size wb wG:=hL▸(Below.refl _ _).alloc (nL _) _;rw[hL]at aK I ⊢;have nC:wb.heap.size=w.heap.size+1:=by rw[<-hM];simp
 obtain⟨G,gU⟩:∃G,w.heap.size+1=G:=⟨_,rfl⟩
 have hG:wb.heap.size=G:=nC.trans gU;obtain⟨gb,hI⟩:∃gb,w.heap.size=gb:=⟨_,rfl⟩
 have Z:=Kh hG;have nW:=Kh hI;rw[hG]at aK I hH;rw[gU];rw[hI]at X0 ⊢;have bY:=Kh X0;have bE:=Kh hY;have hQ:=Kh aK;have hS:=Kh I;have hO:=Kh hH;clear hM X0 hY aK I hL hH hG gU nC hI nA;go_loopw [11] (λii wr=>∃(k:Nat) (gs:Nat->Nat),k<=R/\ii=.int .i64 k/\GM F k C wr G gs G/\(∀i,i<R->(wr.cell? ⟨G,i,none⟩).isSome=true)/\Below G wb wr) (λii _=>R - (intOf ii).toNat)
 case atStart=>exact⟨0,_,Nat.zero_le _,rfl,hQ.1,hS.1,hO.1⟩
 case round=>
  obtain⟨k,gs,hk,rfl,aK,I,mA⟩:=hrel;obtain⟨wk,rfl⟩:∃wk:World,wk=wr:=⟨_,rfl⟩
  have E:=Kh aK;have cI:=Kh I;have eG:=Kh mA;clear aK I mA hQ hS hO;by_cases hlt:k<R
  ·have qH:(k:Int)<(R:Int):=by omega
   have iL:Below wb.heap.size wb wk:=Z.1▸eG.1;have x1:=(bk bY iL).at_ 1 rfl;obtain⟨uk,eX⟩:=nP (cI.1 k hlt);have mC:=E.1.free k;have cT:Below wk.heap.size wk (wk.alloc (.cells (madeCells #[.bool false,.slice none 0 0,.bool false,.slice none 0 0] (C*4)) 86)):=(Below.refl _ _).alloc (nL _) _;have oQ:=Ad cT eX;have oR:=Ab cT (by rw[eX];rfl) mC;clear iL;go_upto_region 6 with(fail)
   clear oQ oR cT;obtain⟨wn,dC⟩:∃wn,wk.alloc (.cells (madeCells #[.bool false,.slice none 0 0,.bool false,.slice none 0 0] (C*4)) 86)=wn:=⟨_,rfl⟩
   have cC:Below wk.heap.size wk wn:=dC▸(Below.refl _ _).alloc (nL _) _;have M:QRow (λq=>IsQ (F k q)) wn wk.heap.size C 0:=dC▸QRow.made _ wk C;have nD:wn.heap.size=wk.heap.size+1:=by rw[<-dC];simp
   try rw[dC]
   obtain⟨g,hg⟩:∃g,wk.heap.size=g:=⟨_,rfl⟩
   have oP:G<g:=hg▸E.1.stk.1;have nB:=E.1.stk.next cC
   have nQ:wn.cell? ⟨G,k,none⟩=some uk:=Ad cC eX;obtain⟨ws,U⟩:∃ws,wn.setCell ⟨G,k,none⟩ (.slice (some ⟨g,0,none⟩) C C)=ws:=⟨_,rfl⟩
   have cB:I32 wn ws:=U▸I32.putU (nB.imp λ_=>SliceV.notU32) k _;have aN:wn.grownBy ws (some G):=U▸Ar wn G k _;have mB:ws.cell? ⟨G,k,none⟩=some (.slice (some ⟨g,0,none⟩) C C):=by rw[<-U];exact World.cell?_setCell_same' _ _ _ (by rw[nQ];rfl)
   rw[hg]at M ⊢;rw[U];have eY:=Kh (show ∀i,i<k->gs i<g from λi hi=>hg▸(E.1.row i hi).sts.1)
   have nX:=Kh (show GM F k C ws G gs G from by
    have h:=E.1.keep cC;refine⟨U▸Be h.stk _ _ ⟨_,_,_,rfl⟩,λi=>U▸Aw (h.free i),h.hB,λi hi=>?_,λi hi=>(h.row i hi).i32 (λ_=>IsQ.solid _) cB aN (h.ne i hi),h.ge,h.ne,h.inj⟩;rw[<-U,World.cell?_setCell_other _ _ _ _ (by simp <;> omega)];exact h.at_ i hi)
   have hU:=Kh (M.i32 (λ_=>IsQ.solid _) cB aN (by omega))
   have nY:=Kh (show ∀i,i<R->(ws.cell? ⟨G,i,none⟩).isSome=true from λi hi=>by
    rw[<-U];obtain⟨u,hu⟩:=nP (cI.1 i hi);exact Ak (by rw[Ad cC hu];rfl))
   have gL:=Kh (show Below G wb ws from Aq (eG.1.trans (cC.mono (by omega))) aN (by omega) (nL _));have eP:=Kh mB;have aD:=Kh oP;clear dC cC M nD hg nB nQ cB aN U eX mC x1 E cI eG;go_wp2_with fail
   have pE:=Kh (show ws.cell? ⟨G,k,none⟩=some (.slice (some ⟨g,0,none⟩) C C)from eP.1);have cG:=Kh (show Below wb.heap.size wb ws from by rw[Z.1];exact gL.1);have hP:=Kh (bE.1.trans (cG.1.mono bE.1.size));try clear mB
   go_loopw [25] (λjj wr=>∃j:Nat,j<=C/\jj=.int .i64 j/\QRow (λq=>IsQ (F k q)) wr g C j/\ws.grownBy wr (some g)/\I32 ws wr) (λjj _=>C - (intOf jj).toNat)
   case atStart=>exact⟨0,Nat.zero_le _,rfl,hU.1,Ag g (Below.refl _ _),I32.refl _⟩
   case round=>
    obtain⟨j,hj,rfl,M,aN,cB⟩:=hrel;obtain⟨we,rfl⟩:∃we:World,we=wr:=⟨_,rfl⟩
    have cM:=Kh M;have J:=Kh aN;have gI:=Kh cB;have bA:=Kh (show(some G:Option Nat)≠some g from λe=>by injection e with e;have:=aD.1;omega);clear M aN cB hU;by_cases hlt:j<C
    ·have qG:(j:Int)<(C:Int):=by omega
     obtain⟨KC,hD⟩:∃n,k*C=n:=⟨_,rfl⟩
     have qJ:KC+C<=RC:=by
      have h1:=Nat.mul_le_mul_right C (show k+1<=R by omega);have h2:=oF.1;rw[Nat.succ_mul]at h1;omega
     have e1:(k:Int)*(C:Int)=(KC:Nat):=by rw[<-hD];push_cast;rfl
     obtain⟨KJ,hW⟩:∃n,KC+j=n:=⟨_,rfl⟩
     have qL:IntKind.i64.wrap (KC:Int)=(KC:Nat):=IntWalk.i64_in _ (by omega);have qM:IntKind.i64.wrap ((KC:Int)+(j:Int))=(KJ:Nat):=by rw[show(KC:Int)+(j:Int)=(KJ:Nat)by omega];exact IntWalk.i64_in _ (by omega)
     obtain⟨oS,mE⟩:=nV.1 (by omega);subst oS;have nT:=Kh (show F k j=X KJ by rw[HF.1 k j hlt,hD,hW]);have gF:gA≠g:=by have:=mE;have:=aD.1;have:=bE.1.size;have:=Z.1;omega
     obtain⟨s',p',i1,c',t',q',m',d',a0,a1,a2,a3,hx⟩:=(((HX.1 KJ (by omega)).keep (IsQ.solid _) hP.1).butR gI.1 J.1 gF)
     have HP:=Kh (show Qs we s' p' i1 c' t' q' m' d' (X KJ)from hx);have c0:=J.1.cell eP.1 bA.1;have cX:(some gb:Option Nat)≠some g:=λe=>by injection e with e;have h1:=bY.1.lt;have h2:=aD.1;have h3:=Z.1;omega
     have x1:=J.1.cell ((bY.1.below_ cG.1 bY.1.lt).at_ 1 rfl) cX;have x2:=J.1.cell ((bY.1.below_ cG.1 bY.1.lt).at_ 2 rfl) cX;have O:=cM.1;obtain⟨u0,e0⟩:=nP (O.has (j*4) (by omega));obtain⟨u1,gP⟩:=nP (O.has (j*4+1) (by omega));obtain⟨u2,gS⟩:=nP (O.has (j*4+2) (by omega));obtain⟨u3,e3⟩:=nP (O.has (j*4+3) (by omega));have oE:=Kh (λw1 (V:Below we.heap.size we w1)=>Wy s' p' i1 c' t' q' m' d' (X KJ) w1 (HP.1.keep V) (HS.1 _ (by omega)));have qI:KJ<RC:=by omega
     have pN:(KJ:Int)<(RC:Int):=by omega
     have pM:(k:Int)<(R:Int):=by omega
     clear hx hD gF cX hW;go_upto_region 9 with(fail)
     refine Lg (λW=>W.cell? ⟨G,k,none⟩=some (.slice (some ⟨g,0,none⟩) C C)/\W.cell? ⟨gb,2,none⟩=some (.slice (some ⟨gA,oA,none⟩) RC cA)/\W.cell? ⟨gb,1,none⟩=some (.int .i64 (C:Int))/\W.cell? ⟨gA,oA+KJ*4,none⟩=some (.bool s')/\W.cell? ⟨gA,oA+KJ*4+1,none⟩=some (.slice p' i1 c')/\W.cell? ⟨gA,oA+KJ*4+2,none⟩=some (.bool t')/\W.cell? ⟨gA,oA+KJ*4+3,none⟩=some (.slice q' m' d')/\W.cell? ⟨g,j*4,none⟩=some (u0)/\W.frozen? ⟨g,j*4,none⟩=false/\W.cell? ⟨g,j*4+1,none⟩=some (u1)/\W.frozen? ⟨g,j*4+1,none⟩=false/\W.cell? ⟨g,j*4+2,none⟩=some (u2)/\W.frozen? ⟨g,j*4+2,none⟩=false/\W.cell? ⟨g,j*4+3,none⟩=some (u3)/\W.frozen? ⟨g,j*4+3,none⟩=false) (λW V=>⟨Av V c0,Av V x2,Av V x1,Av V a0,Av V a1,Av V a2,Av V a3,Av V e0,Ab V (by rw[e0];rfl) (O.free _ (by omega)),Av V gP,Ab V (by rw[gP];rfl) (O.free _ (by omega)),Av V gS,Ab V (by rw[gS];rfl) (O.free _ (by omega)),Av V e3,Ab V (by rw[e3];rfl) (O.free _ (by omega))⟩) (λoG hHeld0=>?_);clear c0 x1 x2 a0 a1 a2 a3 e0 gP gS e3 O;refine Ap 0 ?_;refine Ap 1 ?_;refine Ap 2 ?_;refine Ap 3 ?_;refine Ap 4 ?_;refine Ap 5 ?_;refine Ap 6 ?_;refine Ap 7 ?_;refine Ap 8 ?_;refine Ap 9 ?_;refine Ap 10 ?_;refine Ap 11 ?_;refine Ap 12 ?_;refine Ap 13 ?_;refine Ap 14 ?_;refine Hq 15 rfl (λK hK=>?_);focus(go_simp;refine(oE.1 _ (Below.refl _ we).drew).mono ?_;rintro e w4 ⟨⟨s6,p6,n6,c6,t6,q6,m6,d6,rfl,nR⟩,hZ⟩;have eF:=Kh ((Below.refl _ we).drew.trans hZ:Below we.heap.size we w4);have hJ:=QRow.keep (λq=>(IsQ.solid _:Bi (IsQ (F k q)))) cM.1 eF.1;have hT:=Kh (QRow.set (k':=j+1) (λ_=>IsQ.solid _) hJ j hlt (λq=>IsQ (F k q)) (IsQ.solid _) (λi h1 h2=>⟨by omega,rfl⟩) (show IsQ (F k j) w4 s6 p6 n6 c6 t6 q6 m6 d6 by rw[nT.1];exact nR));have nU:=Kh (show ∀v0 v1 v2 v3,ws.grownBy ((((w4.setCell ⟨g,j*4,none⟩ v0).setCell ⟨g,j*4+1,none⟩ v1).setCell ⟨g,j*4+2,none⟩ v2).setCell ⟨g,j*4+3,none⟩ v3) (some g)from λ_ _ _ _=>Dr J.1 eF.1);have H4:=Kh ((gI.1.trans (I32.below eF.1)).trans (I32.put4 hJ.sts (j*4) (j*4+1) (j*4+2) (j*4+3) (.bool s6) (.slice p6 n6 c6) (.bool t6) (.slice q6 m6 d6) (NotInt.bool _) (NotInt.slice _ _ _) (NotInt.bool _)));clear nR hZ hJ;(first|with_reducible refine hK.out _ _ ?_ (λhHeld1=>?_) |(go_wp2_with fail;with_reducible refine hK.out _ _ ?_ (λhHeld1=>?_))))
     focus((try dsimp only);exact oG.1 _ eF.1)
     focus(clear hK K;(try simp only[Act.put,Bn,Bp,Bo]))
     refine Ap 16 ?_;refine Le 17 rfl (λK hK=>?_);go_simp
     refine hK.out _ _ ?_;clear hK K
     (try simp only[Act.put,Bn,Bp,Bo])
     all_goals go_wp2
     all_goals go_roundw
     all_goals first
      | exact⟨j+1,by omega,by go_num,hT.1,nU.1 _ _ _ _,H4.1⟩
      |(simp[intOf];omega)
    ·obtain rfl:j=C:=by omega
     have nZ:=Kh (nX.1.but gI.1 J.1 (by have:=aD.1;omega) (λi hi=>by have:=eY.1 i hi;omega));have oB:=Kh (nZ.1.more (g:=g) (by rw[J.1.cell eP.1 bA.1];rfl) cM.1 (Nat.le_of_lt aD.1) (by have:=aD.1;omega) (λi hi=>by have:=eY.1 i hi;omega) (J.1.cell eP.1 bA.1))
     have oC:=Kh (show ∀i,i<R->(we.cell? ⟨G,i,none⟩).isSome=true from λi hi=>by
      obtain⟨u,hu⟩:=nP (nY.1 i hi);rw[J.1.cell hu bA.1];rfl)
     have oD:=Kh (show Below G wb we from Aq gL.1 J.1 (by have:=gL.1.size;have:=Z.1;omega) (Nat.le_of_lt aD.1));go_wp2;go_roundw
     case rel=>exact⟨k+1,_,by omega,by go_num,oB.1,oC.1,oD.1⟩
     case measure=>simp[intOf];omega
  ·obtain rfl:k=R:=by omega
   go_wp2;go_ret
   exact⟨⟨G,gs,rfl,E.1.base (by have:=bE.1.size;have:=Z.1;have:=nW.1;omega)⟩,by
    have h:Below wb.heap.size wb wk:=Z.1▸eG.1;exact bE.1.trans (h.mono bE.1.size)⟩
theorem Ul (F:Nat->Nat->Rat) (m C t G cap:Nat) (gs:Nat->Nat) (B0:Nat) (w:World) (h:GM F m C w G gs B0) (ht:t<=m) (hm:m<=1024) (hC:C<=1024):
  Calls prog 55 #[.int .i64 C,.slice (some ⟨G,0,none⟩) t cap] w λe w'=>(∃v,e=.returned (.agg #[.int .i64 t,.int .i64 C,v])/\OwnQ (λp=>IsQ (F (p / C) (p % C))) w' w.heap.size v (t*C))/\Below w.heap.size w w':=by
 have HG:=Kh h;clear h;go_enter func55,ntmps55
 go_wp2_with fail
 obtain⟨w0,eF,X0,cT⟩:=bx1 w #[.int .i64 0,.int .i64 0,.slice none 0 0] 32;rw[eF];obtain⟨wx,cB⟩:∃wx,w0.alloc (.cells #[.int .i64 t,.int .i64 C,.slice none 0 0] 32)=wx:=⟨_,rfl⟩
 have dC:Below w0.heap.size w0 wx:=cB▸(Below.refl _ _).alloc (nL _) _;have Y:Blk wx w0.heap.size 32 #[.int .i64 t,.int .i64 C,.slice none 0 0]:=cB▸Blk.new w0 32 #[.int .i64 t,.int .i64 C,.slice none 0 0];rw[cB];have gL:w0.heap.size=w.heap.size+1:=by rw[<-eF];simp
 obtain⟨ob,aN⟩:∃x,w.heap.size+1=x:=⟨_,rfl⟩
 have dY:w0.heap.size=ob:=gL.trans aN;obtain⟨J,cA⟩:∃x,w.heap.size=x:=⟨_,rfl⟩
 rw[dY]at Y;rw[aN];rw[cA]at X0 ⊢;have I:=Kh (show J<ob by rw[<-dY];exact X0.lt);have aK:=Kh cA;have hD:=Kh (show Below J w wx from cA▸cT.trans (dC.mono cT.size));have U:=Kh (show Blk wx J 32 #[.int .i64 0,.int .i64 0,.slice none 0 0]from X0.below_ dC X0.lt);obtain⟨BB,bE⟩:∃x,wx.heap.size=x:=⟨_,rfl⟩
 have cF:=Kh bE;obtain⟨V,hV⟩:∃V:Nat->FP,(λp=>IsQ (F (p / C) (p % C)))=V:=⟨_,rfl⟩
 have cM:=Kh (show ∀j,Bi (V j)from λj=>by rw[<-hV];exact IsQ.solid _)
 have hN:=Kh (show ∀k i,i<C->V (k*C+i)=IsQ (F k i)from λk i hi=>by
  rw[<-hV];dsimp only;rw[show(k*C+i) / C=k by rw[Nat.mul_comm,Nat.mul_add_div (by omega),Nat.div_eq_of_lt hi,Nat.add_zero],show(k*C+i) % C=i by rw[Nat.mul_comm,Nat.mul_add_mod,Nat.mod_eq_of_lt hi]])
 have hM:=Kh hV
 have eT:=Kh (show MatAt V wx ob BB t C (0*C)from
  ⟨by rw[<-bE];exact Y.lt,Nat.le_of_eq bE.symm,Y.at_ 0 rfl,Y.at_ 1 rfl,⟨none,0,by rw[Nat.zero_mul];exact Y.at_ 2 rfl,by rw[Nat.zero_mul];exact OwnQ.nil _ _ _⟩,Y.free_ 2,Stk.of Y (by intro v hv;simp at hv;rcases hv with rfl|rfl|rfl <;> exact λ_ h=>by cases h)⟩)
 clear cB dC Y dY aN gL cA bE hV eF X0 cT;go_loopw [14] (λii wr=>∃k:Nat,k<=t/\ii=.int .i64 k/\MatAt V wr ob BB t C (k*C)/\wx.grownBy wr (some ob)) (λii _=>t - (intOf ii).toNat)
 case atStart=>exact⟨0,Nat.zero_le _,rfl,eT.1,Ag ob (Below.refl _ _)⟩
 case round=>
  obtain⟨k,hk,rfl,cD,gF⟩:=hrel;obtain⟨we,rfl⟩:∃we:World,we=wr:=⟨_,rfl⟩
  have E:=Kh cD;have O:=Kh gF;clear cD gF eT;have cG:=Kh (show Below J w we from Aq hD.1 O.1 (by have:=cF.1;have:=E.1.lt;have:=I.1;omega) (Nat.le_of_lt I.1));by_cases hlt:k<t
  ·have nB:(k:Int)<(t:Int):=by omega
   have cX:=cG.1;rw[<-aK.1]at cX;have dE:=HG.1.keep cX;have r4:=dE.at_ k (by omega);have bC:=Kh (dE.row k (by omega));obtain⟨p,c,g2,xs,hK,cS⟩:=E.1.c2;obtain⟨n,hn⟩:∃x,k*C=x:=⟨_,rfl⟩
   have nC:n<=1024*1024:=by rw[<-hn];exact Nat.mul_le_mul (by omega:k<=1024) hC
   rw[hn]at g2 hK cS E;have hI:=Kh (show n+C=(k+1)*C by rw[<-hn,Nat.add_mul,Nat.one_mul]);have eP:=Kh (show ∀j,j<C->V (n+j)=IsQ (F k j)from λj hj=>by rw[<-hn];exact hN.1 k j hj);have HK:=Kh hK;have hO:=Kh cS;have hE:=Kh g2;have hT:ob<we.heap.size:=nN E.1.lt E.1.hB;clear cX dE hK cS hn;go_wp2_with (at_builtin;refine Qb NotInt rfl (.tmp 19) (.tmp 20) _ 86 rfl underlying30 F4 rfl (by decide) BB n C (gs k) C (.slice p n c) xs (Ax we (gs k) (C*4)) rfl HK.1 rfl (Ci _ _ _) bC.1.cells bC.1.one (by omega) (by omega) E.1.hB bC.1.ni kT ?_;intro v9 w9 Z aD;obtain⟨p9,c9,rfl⟩:=Bg Z.1;obtain⟨d2,df,eY⟩:=E.1.more cM.1 hE.1 HK.1.1 (OwnQ.more cM.1 HK.1 hO.1 bC.1 Z aD eP.1) aD;have hJ:=Kh eY;have hG:=Kh ((H7 O.1 aD cF.1.symm (λb hb=>Cl HK.1.1 hb.symm)).trans (Ar w9 ob 2 (.slice p9 (n+C) c9)));clear eY Z aD g2)
   go_roundw
   case rel=>exact⟨k+1,by omega,by go_num,by rw[<-hI.1];exact hJ.1,hG.1⟩
   case measure=>simp[intOf];omega
  ·obtain rfl:t=k:=by omega
   obtain⟨p,c,g2,gA⟩:=E.1.c2;have bY:J≠ob:=Nat.ne_of_lt I.1;have M:=O.1.block J (by rw[cF.1];have:=I.1;have:=E.1.lt;omega) (λe=>by injection e with e;exact bY e);have r0:=O.1.cell (U.1.at_ 0 rfl) (λe=>by injection e with e;exact bY e);have r1:=O.1.cell (U.1.at_ 1 rfl) (λe=>by injection e with e;exact bY e);have r2:=O.1.cell (U.1.at_ 2 rfl) (λe=>by injection e with e;exact bY e);have f0:we.frozen? ⟨J,0,none⟩=false:=(World.frozen?_of_block (a:=⟨J,0,none⟩) M).trans (U.1.free_ 0);have f1:we.frozen? ⟨J,1,none⟩=false:=(World.frozen?_of_block (a:=⟨J,1,none⟩) M).trans (U.1.free_ 1);have f2:we.frozen? ⟨J,2,none⟩=false:=(World.frozen?_of_block (a:=⟨J,2,none⟩) M).trans (U.1.free_ 2);have aX:Stk NotU32 wx J:=Stk.of U.1 (by intro v hv;simp at hv;rcases hv with rfl|rfl|rfl <;> exact λ_ h=>by cases h);have gI:Stk NotU32 we J:=⟨nN aX.1 O.1.size,λi u hu=>aX.2 i u ((World.cell?_of_block (a:=⟨J,i,none⟩) M).symm.trans hu)⟩
   have a0:=E.1.c0;have a1:=E.1.c1;have cI:=Kh (Dm (w:=we) (R:=J) (v0:=.int .i64 (t:Int)) (v1:=.int .i64 (C:Int)) (v2:=.slice p (t*C) c) (by rw[r0];rfl) (by rw[r1];rfl) (by rw[r2];rfl));have hH:=Kh (Ji gI (v0:=.int .i64 (t:Int)) (v1:=.int .i64 (C:Int)) (v2:=.slice p (t*C) c) (λ_ h=>by cases h) (λ_ h=>by cases h));have eG:=Kh (((Ar we J 0 (.int .i64 (t:Int))).trans (Ar _ J 1 (.int .i64 (C:Int)))).trans (Ar _ J 2 (.slice p (t*C) c)));have hL:=Kh gA;clear gA M aX gI;go_wp2;have e0:=cI.1.1;have e1:=cI.1.2.1;have e2:=cI.1.2.2;try simp only[Exit.inBlock,Exit.then]
   refine bodyPost_ret (by simp[results,results55,go_sem,e0,e1,e2];try rfl) rfl ?_;refine⟨⟨_,rfl,?_⟩,?_⟩
   ·rw[hM.1]
    obtain⟨xs,h1,h2⟩:=hL.1.box cM.1 hH.1 eG.1 (by have:=I.1;have:=E.1.lt;omega)
    exact⟨xs,⟨⟨h1.1.1,by
     rcases h1.1.2 with h |⟨g',cap,cs,e,mC,hr⟩
     ·exact .inl h
     ·exact .inr ⟨g',cap,cs,e,by have:=aK.1;have:=I.1;have:=E.1.lt;omega,hr⟩⟩,h1.2⟩,h2⟩
   ·exact Aq (aK.1▸cG.1) eG.1 (by have:=cG.1.size;have:=aK.1;omega) (by have:=aK.1;omega)
theorem Og (F:Nat->Nat->Rat) (R C:Nat) (v:Value) (w:World) (h:eL F R C w v) (pJ:R<=1000) (hC:C<=1000) (hs:∀i q,i<R->q<C->hq (F i q)<=1000000000000):
  Calls prog 62 #[.int .i64 C,v] w λe w'=>(∃p c,e=.returned (.tuple #[.agg #[.int .i64 R,.int .i64 C,.slice p (R*C) c],.int .i64 0])/\QL (λj=>IsQ (F (j / C) (j % C))) w' (.slice p (R*C) c) (R*C))/\Below w.heap.size w w':=by
 obtain⟨pR,cG,rfl,dY⟩:=h
 have oK:=Kh (λW (hb:Below w.heap.size w W) i (hi:i<R)=>(show ∃G g,pR=some ⟨G,0,none⟩/\W.cell? ⟨G,i,none⟩=some (.slice (some ⟨g,0,none⟩) C C)/\(0<C->QRow (λq=>IsQ (F i q)) W g C C)by
  obtain⟨G,hp,hG,h1⟩:=dY (by omega);obtain⟨g,e1,h2⟩:=h1 i hi;exact⟨G,g,hp,(hb.cell (p:=⟨G,i,none⟩) hG).trans e1,λhC=>(h2 hC).keep (λ_=>IsQ.solid _) hb⟩))
 have HS:=Kh hs;clear dY hs;go_enter func62,ntmps62
 go_wp2_with fail
 obtain⟨w0,nB,X0,gL⟩:=bx1 w #[.int .i64 0,.int .i64 0,.slice none 0 0] 32;rw[nB];refine(I4 C w0 (by omega)).mono ?_;rintro e w1 ⟨rfl,gN⟩;have hU:=Kh (X0.below_ gN X0.lt);have hL:=Kh (gL.trans (gN.mono gL.size));clear nB X0 gL gN;go_wp2_with fail
 refine(I4 R w1 (by omega)).mono ?_;rintro e w2 ⟨rfl,gP⟩;have bC:=Kh (bk hU gP);have hM:=bt hL gP;have pH:((C:Int) !=(C:Int))=false:=by simp
 clear gP hU hL;go_wp2_with fail
 obtain⟨wx,cX⟩:∃wx,w2.alloc (.cells #[.int .i64 R,.int .i64 C,.slice none 0 0] 32)=wx:=⟨_,rfl⟩
 have cI:Below w2.heap.size w2 wx:=cX▸(Below.refl _ _).alloc (nL _) _;have Y:Blk wx w2.heap.size 32 #[.int .i64 R,.int .i64 C,.slice none 0 0]:=cX▸Blk.new w2 32 #[.int .i64 R,.int .i64 C,.slice none 0 0];obtain⟨ob,bY⟩:∃x,w2.heap.size=x:=⟨_,rfl⟩
 obtain⟨J,bE⟩:∃x,w.heap.size=x:=⟨_,rfl⟩
 have cD:=Kh bE;have dC:=bC.1.lt;have bB:=hM.1;rw[bE]at bC dC;rw[bY]at Y cI dC;have aN:=Kh dC;have nV:=Kh (show Below J w wx from bE▸bB.trans (cI.mono (bY▸bB.size)));have aD:=Kh (show Blk wx J 32 #[.int .i64 0,.int .i64 0,.slice none 0 0]from bC.1.below_ (bY▸cI) bC.1.lt);obtain⟨BB,cF⟩:∃x,wx.heap.size=x:=⟨_,rfl⟩
 have eP:=Kh cF;obtain⟨V,hV⟩:∃V:Nat->FP,(λp=>IsQ (F (p / C) (p % C)))=V:=⟨_,rfl⟩
 have hT:=Kh (show ∀j,Bi (V j)from λj=>by rw[<-hV];exact IsQ.solid _)
 have oM:=Kh (show ∀k i,i<C->V (k*C+i)=IsQ (F k i)from λk i hi=>by
  rw[<-hV];dsimp only;rw[show(k*C+i) / C=k by rw[Nat.mul_comm,Nat.mul_add_div (by omega),Nat.div_eq_of_lt hi,Nat.add_zero],show(k*C+i) % C=i by rw[Nat.mul_comm,Nat.mul_add_mod,Nat.mod_eq_of_lt hi]])
 have oL:=Kh hV
 have hS:=Kh (show MatAt V wx ob BB R C (0*C)from
  ⟨by rw[<-cF];exact Y.lt,Nat.le_of_eq cF.symm,Y.at_ 0 rfl,Y.at_ 1 rfl,⟨none,0,by rw[Nat.zero_mul];exact Y.at_ 2 rfl,by rw[Nat.zero_mul];exact OwnQ.nil _ _ _⟩,Y.free_ 2,Stk.of Y (by intro v hv;simp at hv;rcases hv with rfl|rfl|rfl <;> exact λ_ h=>by cases h)⟩)
 rw[cX];try rw[bY]
 try rw[bE]
 clear cX bY cI Y bE cF hV bB bC hM dC;go_loopw [25] (λii wr=>∃k:Nat,k<=R/\ii=.int .i64 k/\MatAt V wr ob BB R C (k*C)/\wx.grownBy wr (some ob)) (λii _=>R - (intOf ii).toNat)
 case atStart=>exact⟨0,Nat.zero_le _,rfl,hS.1,Ag ob (Below.refl _ _)⟩
 case round=>
  obtain⟨k,hk,rfl,dE,mE⟩:=hrel;obtain⟨U,rfl⟩:∃U:World,U=wr:=⟨_,rfl⟩
  have I:=Kh dE;have Z:=Kh mE;clear dE mE hS;have hO:=Kh (show Below J w U from Aq nV.1 Z.1 (by have:=eP.1;have:=I.1.lt;have:=aN.1;omega) (Nat.le_of_lt aN.1));by_cases hlt:k<R
  ·have pM:(k:Int)<(R:Int):=by omega
   have gS:=hO.1;rw[<-cD.1]at gS;obtain⟨G,g,oT,r4,cA⟩:=oK.1 U gS k hlt;subst oT
   have oH:=Kh (show ∀(j:Nat) (u:Value),(Ax U g (C*4))[j]?=some u->U.cell? ⟨g,j,none⟩=some u from λj u hu=>by
    rcases Nat.eq_zero_or_pos C with e|e
    ·rw[e,Nat.zero_mul]at hu;cases hu
    ·exact(cA e).cells j u hu)
   have oG:=Kh (show ∀u∈Ax U g (C*4),u.oneCell'=true from λu hu=>by
    rcases Nat.eq_zero_or_pos C with e|e
    ·rw[e,Nat.zero_mul]at hu;cases hu
    ·exact(cA e).one u hu)
   have oI:=Kh (show ∀u∈Ax U g (C*4),NotInt u from λu hu=>by
    rcases Nat.eq_zero_or_pos C with e|e
    ·rw[e,Nat.zero_mul]at hu;cases hu
    ·exact(cA e).ni u hu)
   have oJ:=Kh cA;obtain⟨p,c,g2,xs,hK,gI⟩:=I.1.c2;obtain⟨n,hn⟩:∃x,k*C=x:=⟨_,rfl⟩
   have pO:n<=1024*1024:=by rw[<-hn];exact Nat.mul_le_mul (by omega:k<=1024) (by omega)
   rw[hn]at g2 hK gI I;have oB:=Kh (show n+C=(k+1)*C by rw[<-hn,Nat.add_mul,Nat.one_mul]);have hR:=Kh (show ∀j,j<C->V (n+j)=IsQ (F k j)from λj hj=>by rw[<-hn];exact oM.1 k j hj);have HK:=Kh hK;have oN:=Kh gI;have nX:=Kh g2;have oY:ob<U.heap.size:=nN I.1.lt I.1.hB;have oE:=Kh hn;clear gS cA hK gI hn;go_wp2_with (at_builtin;refine Qb NotInt rfl (.tmp 35) (.tmp 36) _ 86 rfl underlying30 F4 rfl (by decide) BB n C g C (.slice p n c) xs (Ax U g (C*4)) rfl HK.1 rfl (Ci _ _ _) oH.1 oG.1 (by omega) (by omega) I.1.hB oI.1 kT ?_;intro v9 w9 M aX;obtain⟨p9,c9,rfl⟩:=Bg M.1;obtain⟨d2,df,mA⟩:=I.1.more hT.1 nX.1 HK.1.1 (by rcases Nat.eq_zero_or_pos C with e|e;(have pN:n=0:=by have:=oE.1;rw[e,Nat.mul_zero]at this;omega);(exact⟨_,M,λj hj=>by omega⟩);(exact OwnQ.more hT.1 HK.1 oN.1 (oJ.1 e) M aX hR.1)) aX;have oC:=Kh mA;have nY:=Kh ((H7 Z.1 aX eP.1.symm (λb hb=>Cl HK.1.1 hb.symm)).trans (Ar w9 ob 2 (.slice p9 (n+C) c9)));clear mA M aX g2)
   go_roundw
   case rel=>exact⟨k+1,by omega,by go_num,by rw[<-oB.1];exact oC.1,nY.1⟩
   case measure=>simp[intOf];omega
  ·obtain rfl:R=k:=by omega
   obtain⟨p,c,g2,gF⟩:=I.1.c2;have a0:=I.1.c0;have a1:=I.1.c1;obtain⟨n,hn⟩:∃x,R*C=x:=⟨_,rfl⟩
   rw[hn]at g2 gF I
   obtain⟨gA,cT⟩:∃gA,0<n->p=some ⟨gA,0,none⟩/\QRow V U gA n n:=by
    rcases gF.row with⟨h,_⟩ |⟨g,cap,oU,pL,cT⟩
    ·exact⟨0,λh2=>by omega⟩
    ·injection oU with s1 s2 s3
     exact⟨g,λ_=>⟨s1,cT⟩⟩
   have eX:=Kh cT;have HN:=Kh hn;have cM:J≠ob:=Nat.ne_of_lt aN.1;have O:=Z.1.block J (by rw[eP.1];have:=aN.1;have:=I.1.lt;omega) (λe=>by injection e with e;exact cM e);have r0:=Z.1.cell (aD.1.at_ 0 rfl) (λe=>by injection e with e;exact cM e);have r1:=Z.1.cell (aD.1.at_ 1 rfl) (λe=>by injection e with e;exact cM e);have r2:=Z.1.cell (aD.1.at_ 2 rfl) (λe=>by injection e with e;exact cM e);have f0:U.frozen? ⟨J,0,none⟩=false:=(World.frozen?_of_block (a:=⟨J,0,none⟩) O).trans (aD.1.free_ 0);have f1:U.frozen? ⟨J,1,none⟩=false:=(World.frozen?_of_block (a:=⟨J,1,none⟩) O).trans (aD.1.free_ 1);have f2:U.frozen? ⟨J,2,none⟩=false:=(World.frozen?_of_block (a:=⟨J,2,none⟩) O).trans (aD.1.free_ 2);have cB:Stk NotU32 wx J:=Stk.of aD.1 (by intro v hv;simp at hv;rcases hv with rfl|rfl|rfl <;> exact λ_ h=>by cases h);have aK:Stk NotU32 U J:=⟨nN cB.1 Z.1.size,λi u hu=>cB.2 i u ((World.cell?_of_block (a:=⟨J,i,none⟩) O).symm.trans hu)⟩
   have eY:=Kh (And.intro r0 (And.intro r1 (And.intro r2 (And.intro f0 (And.intro f1 (And.intro f2 aK))))));clear r0 r1 r2 f0 f1 f2 O cB aK cT gF hn I;go_wp2_with fail
   refine(Mv R C n gA 0 c p (λj=>F (j / C) (j % C)) F U (λh=>⟨(eX.1 h).1,(eX.1 h).2.sts.1⟩) (λj hj=>by
    have h1:=(eX.1 (by omega)).2.val j hj;rw[<-oL.1]at h1;rw[Nat.zero_add];exact h1) HN.1 (by omega) (by omega) (λj hj=>HS.1 _ _ (Nat.div_lt_of_lt_mul (by rw[Nat.mul_comm,HN.1];exact hj)) (Nat.mod_lt _ (by rcases Nat.eq_zero_or_pos C with e|e;(have h3:=HN.1;rw[e,Nat.mul_zero]at h3;omega);exact e))) (λi q hq=>by
    rw[show(i*C+q) / C=i by rw[Nat.mul_comm,Nat.mul_add_div (by omega),Nat.div_eq_of_lt hq,Nat.add_zero],show(i*C+q) % C=q by rw[Nat.mul_comm,Nat.mul_add_mod,Nat.mod_eq_of_lt hq]])).mono ?_
   rintro e w5 ⟨⟨G5,oQ,rfl,mD⟩,mB⟩;have nZ:=Kh mD;have eG:=Kh mB;clear mD mB;go_wp2_with fail
   refine(Ul F R C R G5 R oQ U.heap.size w5 nZ.1 (nL _) (by omega) (by omega)).mono ?_;rintro e w6 ⟨⟨v6,rfl,cS⟩,mC⟩
   obtain⟨p6,c6,rfl⟩:∃p c,v6=.slice p (R*C) c:=by
    obtain⟨_,oS,_⟩:=cS;exact Bg oS.1
   have E:=eG.1.trans (mC.mono eG.1.size);obtain⟨r0,r1,r2,f0,f1,f2,aK⟩:=eY.1;have q0:=Ad E r0;have q1:=Ad E r1;have q2:=Ad E r2;have h0:=Ab E (by rw[r0];rfl) f0;have h1:=Ab E (by rw[r1];rfl) f1;have h2:=Ab E (by rw[r2];rfl) f2;have eF:=aK.next E
   have eT:=Kh (Dm (w:=w6) (R:=J) (v0:=.int .i64 (R:Int)) (v1:=.int .i64 (C:Int)) (v2:=.slice p6 (R*C) c6) (by rw[q0];rfl) (by rw[q1];rfl) (by rw[q2];rfl));have oA:=Kh (Ji eF (v0:=.int .i64 (R:Int)) (v1:=.int .i64 (C:Int)) (v2:=.slice p6 (R*C) c6) (λ_ h=>by cases h) (λ_ h=>by cases h));have hP:=Kh (((Ar w6 J 0 (.int .i64 (R:Int))).trans (Ar _ J 1 (.int .i64 (C:Int)))).trans (Ar _ J 2 (.slice p6 (R*C) c6)));have oF:=Kh cS.ql;have nW:=Kh (Yx cS);have hQ:=Kh (show J<w5.heap.size from nN aK.1 eG.1.size);have hN:=Kh (show Below J w w6 from hO.1.trans (E.mono (by have:=aK.1;omega)));clear r0 r1 r2 f0 f1 f2 aK eF E mC cS;go_wp2;have e0:=eT.1.1;have e1:=eT.1.2.1;have e2:=eT.1.2.2;try simp only[Exit.inBlock,Exit.then]
   refine bodyPost_ret (by simp[results,results62,go_sem,e0,e1,e2];try rfl) rfl ?_;exact⟨⟨p6,c6,rfl,oF.1.boxed (λ_=>IsQ.solid _) oA.1 hP.1 (λa ha=>by have:=nW.1 a ha;have:=hQ.1;omega)⟩,Aq (cD.1▸hN.1) hP.1 (by have:=hN.1.size;have:=cD.1;have:=hQ.1;omega) (by have:=cD.1;omega)⟩
theorem Ws (n:Nat) (w:World) (hn:n<=1000):
  Calls prog 120 #[.int .i64 n] w λe w'=>(∃g,e=.returned (.slice (some ⟨g,0,none⟩) n n)/\w.heap.size<=g/\QRow (λ_=>IsQ (((0:Int)):Rat)) w' g n n)/\Below w.heap.size w w':=by
 have cB:=G4 n (by omega);go_enter func120,ntmps120
 go_wp2_with fail
 have I:=QRow.made (λ_=>IsQ (((0:Int)):Rat)) w n;obtain⟨wy,V⟩:∃wy,w.alloc (.cells (madeCells #[.bool false,.slice none 0 0,.bool false,.slice none 0 0] (n*4)) 86)=wy:=⟨_,rfl⟩
 have U:Below w.heap.size w wy:=V▸(Below.refl _ _).alloc (nL _) _;rw[V]at I ⊢;obtain⟨G,hG⟩:∃g,w.heap.size=g:=⟨_,rfl⟩
 have aD:=Kh hG;rw[hG]at I U ⊢;have aN:=Kh I;have h:=Kh U;clear I U V hG;go_loopw [9] (λii wr=>∃k:Nat,k<=n/\ii=.int .i64 k/\QRow (λ_=>IsQ (((0:Int)):Rat)) wr G n k/\Below G w wr) (λii _=>n - (intOf ii).toNat)
 case atStart=>exact⟨0,Nat.zero_le _,rfl,aN.1,h.1⟩
 case round=>
  obtain⟨k,hk,rfl,J,aX⟩:=hrel;obtain⟨w6,rfl⟩:∃w6:World,w6=wr:=⟨_,rfl⟩
  have M:=Kh J;have Z:=Kh aX;clear J aX aN h;by_cases hlt:k<n
  ·have cG:(k:Int)<(n:Int):=by omega
   go_wp2_with fail
   refine(Du 0 w6 (by omega) (by omega)).mono ?_;rintro e w8 ⟨⟨s6,p6,n6,c6,t6,q6,m6,d6,rfl,bA⟩,O⟩;have E:=M.1.keep (λ_=>IsQ.solid _) O;have aK:=Kh (QRow.set (k':=k+1) (λ_=>IsQ.solid _) E k hlt (λ_=>IsQ (((0:Int)):Rat)) (IsQ.solid _) (λi h1 h2=>⟨by omega,rfl⟩) (show IsQ (((0:Int)):Rat) w8 s6 p6 n6 c6 t6 q6 m6 d6 from bA));have bB:=Kh (Z.1.trans (O.mono (Nat.le_of_lt M.1.sts.1)));obtain⟨u0,cI⟩:=nP (E.has (k*4) (by omega));obtain⟨u1,cM⟩:=nP (E.has (k*4+1) (by omega));obtain⟨u2,hu2⟩:=nP (E.has (k*4+2) (by omega));obtain⟨u3,cS⟩:=nP (E.has (k*4+3) (by omega));have f0:=E.free (k*4) (by omega);have f1:=E.free (k*4+1) (by omega);have f2:=E.free (k*4+2) (by omega);have f3:=E.free (k*4+3) (by omega);clear O E bA;go_wp2;go_roundw
   case rel=>exact⟨k+1,by omega,by go_num,aK.1,A3 bB.1⟩
   case measure=>simp[intOf];omega
  ·obtain rfl:n=k:=by omega
   clear hlt hk;go_wp2;go_ret;exact⟨⟨G,rfl,Nat.le_of_eq aD.1,M.1⟩,aD.1▸Z.1⟩
end
end Go.Proofs.YtenlbhlllgppmaaGreatDoor
