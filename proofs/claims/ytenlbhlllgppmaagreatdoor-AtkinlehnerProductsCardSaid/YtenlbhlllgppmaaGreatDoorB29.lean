/- matrix.combine for long fractions, times, Apply. -/
import Derived.Test.YtenlbhlllgppmaaGreatDoorB28
set_option linter.unusedSimpArgs false
set_option maxRecDepth 100000
set_option maxHeartbeats 8000000
namespace Go.Proofs.YtenlbhlllgppmaaGreatDoor
open Tryz
open Go.RowKit Eli
theorem cI (s:Bool) (p:Option Addr) (n c:Nat) (t:Bool) (q:Option Addr) (m d:Nat) (x:Rat) (Z:Bool) (p':Option Addr) (V J:Nat) (t':Bool) (Y:Option Addr) (U O:Nat) (y:Rat) (w:World) (h:Qs w s p n c t q m d x) (I:Qs w Z p' V J t' Y U O y) (hx:hq x<=1000000000000) (hy:hq y<=1000000000000):
  Calls prog 39 #[.agg #[.bool s,.slice p n c,.bool t,.slice q m d],.agg #[.bool Z,.slice p' V J,.bool t',.slice Y U O]] w λe w'=>Eg w' e (x+y)/\Below w.heap.size w w':=by
 have h1:=Xe s p n c x.num t q m d x.den Z p' V J y.num t' Y U O y.den w h.1.raw h.2.raw I.1.raw I.2.raw (by have:=h.sizes;omega) (by have:=h.sizes;omega) (by have:=I.sizes;omega) (by have:=I.sizes;omega) (F1 x) (F1 y);rw[Bl,Bl]at h1;exact h1
theorem Rk (g N cx gy oy cy fr:Nat) (F Y:Nat->Rat) (s:Bool) (p:Option Addr) (n c:Nat) (t:Bool) (q:Option Addr) (m d:Nat) (x:Rat) (w:World) (h1:QRow (λj=>IsQ (F j)) w g N N)
  (hP:gy≠g) (hM:gy<w.heap.size) (hS:∀j,j<N->QE (IsQ (Y j)) w gy (oy+j*4))
  (hx:Qs w s p n c t q m d x) (hK:hq x<=1000000000) (hF:∀j,j<N->hq (F j)<=950000000000/\hq (Y j)<=13000000000) (hN:N<=1000000) (oN:fr<=N) (hY:∀j,j<fr->Y j=0):
  Calls prog 122 #[.slice (some ⟨g,0,none⟩) N cx,.slice (some ⟨gy,oy,none⟩) N cy,.agg #[.bool s,.slice p n c,.bool t,.slice q m d],.int .i64 fr] w λe w'=>(∃v,e=.returned v)/\QRow (λj=>IsQ (F j+x*Y j)) w' g N N/\w.grownBy w' (some g)/\I32 w w':=by
 have oF:=Kh hS;have dY:=Kh hP;have HX:=Kh hx;have HF:=Kh hF;have H1:=Kh h1;have HK:=Kh hK;have nW:=Kh h1.sts.1;have pF:=Kh hM;have oE:=Kh hY;clear h1 hx hF hK hS hP hM hY;go_enter func122,ntmps122
 go_wp2_with fail
 obtain⟨w0,hQ,X0,cA⟩:=bx1 w #[.bool s,.slice p n c,.bool t,.slice q m d] 86;rw[hQ];have cF:=Kh cA;have aX:=Kh X0
 have gF:=Kh (show QRow (addQ F Y x fr) w0 g N N from QRow.congr (QRow.keep (λ_=>IsQ.solid _) H1.1 cA) (λj _=>by
  unfold addQ;by_cases hj:j<fr
  ·rw[if_pos hj,oE.1 j hj];congr 1;grind
  ·rw[if_neg hj]))
 have oA:=Kh (HX.1.keep cA);obtain⟨gc,cT⟩:∃gc,w.heap.size=gc:=⟨_,rfl⟩
 have bA:=Kh (show gc≠g by have:=nW.1;omega);rw[cT]at aX ⊢;have oW:=Kh cT;clear X0 cA hQ H1 HX cT;go_wp2;go_loopw [8] (λi wr=>∃k:Nat,k<=N/\i=.int .i64 k/\QRow (addQ F Y x k) wr g N N/\w0.grownBy wr (some g)/\I32 w0 wr) (λi _=>N - (intOf i).toNat)
 case atStart=>exact⟨fr,oN,rfl,gF.1,Af g (Below.refl _ _),I32.refl _⟩
 case round=>
  obtain⟨k,hk,rfl,cC,hL,hH⟩:=hrel;have bC:=Kh cC;have U:=Kh hL;have Z:=Kh hH;clear cC hL hH gF;by_cases hlt:k<N
  ·obtain⟨s',p',i1,c',t',q',m',d',a0,a1,a2,a3,hx⟩:=(((oF.1 k hlt).keep (IsQ.solid _) cF.1).butR Z.1 U.1 dY.1)
   have HP:=Kh (show Qs wr s' p' i1 c' t' q' m' d' (Y k)from hx);have gA:=Kh (oA.1.i32 Z.1);have x0:=U.1.cell (aX.1.at_ 0 rfl) (λe=>by injection e with e;exact bA.1 e);have x1:=U.1.cell (aX.1.at_ 1 rfl) (λe=>by injection e with e;exact bA.1 e);have x2:=U.1.cell (aX.1.at_ 2 rfl) (λe=>by injection e with e;exact bA.1 e);have x3:=U.1.cell (aX.1.at_ 3 rfl) (λe=>by injection e with e;exact bA.1 e);have pL:(k:Int)<(N:Int):=by omega
   have gN:=Kh (show Cells4 wr gc 0 s p n c t q m d from⟨x0,x1,x2,x3⟩);have dE:=Kh (show Cells4 wr gy (oy+k*4) s' p' i1 c' t' q' m' d' from⟨a0,a1,a2,a3⟩);clear hx x0 x1 x2 x3;go_wp2_with fail
   refine(Ml s' p' i1 c' t' q' m' d' (Y k) wr HP.1 (by have:=(HF.1 k hlt).2;omega)).mono ?_;rintro e we ⟨rfl,O⟩;have pE:=Kh O;have I:=Kh (QRow.keep (λj=>(IsQ.solid _:Bu (addQ F Y x k j))) bC.1 O);have bB:=Kh (U.1.trans (Af g O));have h:=Kh (Z.1.trans (I32.below O));have nZ:=Kh (HP.1.keep O);have oB:=Kh (gA.1.keep O);have oD:=Kh (gN.1.keep O);have nB:=Kh (dE.1.keep O);clear O a0 a1 a2 a3 bC U Z HP gA gN dE;by_cases hz:Y k=0
   ·have h0:(!decide (Y k=0))=false:=by rw[decide_eq_true hz];rfl
    rw[h0];have oO:=Kh (show F k+x*Y k=F k by rw[hz];grind);clear hz h0;go_wp2;go_roundw
    case rel=>exact⟨k+1,by omega,by go_num,addQ.done I.1 oO.1,bB.1,h.1⟩
    case measure=>simp[intOf];omega
   ·have h0:(!decide (Y k=0))=true:=by rw[decide_eq_false hz];rfl
    rw[h0];obtain⟨x0,x1,x2,x3⟩:=oD.1;obtain⟨a0,a1,a2,a3⟩:=nB.1;obtain⟨s5,p5,n5,c5,t5,q5,m5,d5,e0,e1,e2,e3,hy⟩:=addQ.elem I.1 hlt;have nC:=Kh (show Qs we s5 p5 n5 c5 t5 q5 m5 d5 (F k)from hy)
    have oC:=Kh (show hq (x*Y k)<=14000000000 by
     have h1:=B7 x (Y k);have h2:=HK.1;have h3:=(HF.1 k hlt).2;omega)
    have nX:=Kh (λw1 (J:Below we.heap.size we w1)=>cJ s p n c t q m d x s' p' i1 c' t' q' m' d' (Y k) w1 (oB.1.keep J) (nZ.1.keep J) (by have:=HK.1;omega) (by have:=(HF.1 k hlt).2;omega));have V:=I.1;have pM:=dY.1;have pN:=bA.1;have pO:g<we.heap.size:=V.sts.1;clear hy h0 hz;go_upto_region 5 with(fail)
    refine J2 (λW=>W.cell? ⟨gc,0,none⟩=some (.bool s)/\W.cell? ⟨gc,1,none⟩=some (.slice p n c)/\W.cell? ⟨gc,2,none⟩=some (.bool t)/\W.cell? ⟨gc,3,none⟩=some (.slice q m d)/\W.cell? ⟨gy,oy+k*4,none⟩=some (.bool s')/\W.cell? ⟨gy,oy+k*4+1,none⟩=some (.slice p' i1 c')/\W.cell? ⟨gy,oy+k*4+2,none⟩=some (.bool t')/\W.cell? ⟨gy,oy+k*4+3,none⟩=some (.slice q' m' d')/\W.cell? ⟨g,k*4,none⟩=some (.bool s5)/\W.frozen? ⟨g,k*4,none⟩=false/\W.cell? ⟨g,k*4+1,none⟩=some (.slice p5 n5 c5)/\W.frozen? ⟨g,k*4+1,none⟩=false/\W.cell? ⟨g,k*4+2,none⟩=some (.bool t5)/\W.frozen? ⟨g,k*4+2,none⟩=false/\W.cell? ⟨g,k*4+3,none⟩=some (.slice q5 m5 d5)/\W.frozen? ⟨g,k*4+3,none⟩=false) (λW J=>⟨Aq J x0,Aq J x1,Aq J x2,Aq J x3,Aq J a0,Aq J a1,Aq J a2,Aq J a3,Aq J e0,Ab J (by rw[e0];rfl) (V.free _ (by omega)),Aq J e1,Ab J (by rw[e1];rfl) (V.free _ (by omega)),Aq J e2,Ab J (by rw[e2];rfl) (V.free _ (by omega)),Aq J e3,Ab J (by rw[e3];rfl) (V.free _ (by omega))⟩) (λgL hHeld0=>?_);clear x0 x1 x2 x3 a0 a1 a2 a3 e0 e1 e2 e3 V;refine Aj 0 ?_;refine Aj 1 ?_;refine Aj 2 ?_;refine Aj 3 ?_;refine Aj 4 ?_;refine Aj 5 ?_;refine Aj 6 ?_;refine Aj 7 ?_;refine Aj 8 ?_;refine Aj 9 ?_;refine Aj 10 ?_;refine G6 11 rfl (λK hK=>?_);focus(go_simp;refine(nX.1 _ (Below.refl _ we).drew).mono ?_;rintro e w2 ⟨⟨s3,p3,n3,c3,t3,q3,m3,d3,rfl,hT⟩,hI⟩;have cG:=Kh ((Below.refl _ we).drew.trans hI:Below we.heap.size we w2);have oG:=Kh hT;clear hT hI;(first|with_reducible refine hK.out _ _ ?_ (λhHeld1=>?_) |(go_wp2_with fail;with_reducible refine hK.out _ _ ?_ (λhHeld1=>?_))))
    focus((try dsimp only);exact gL.1 _ cG.1)
    focus(clear hK K;(try simp only[Act.put,Bo,Bt,Bp]))
    refine G6 12 rfl (λK hK=>?_);focus(go_simp;refine(cI s5 p5 n5 c5 t5 q5 m5 d5 (F k) s3 p3 n3 c3 t3 q3 m3 d3 (x*Y k) _ (nC.1.keep cG.1) oG.1 (by have:=(HF.1 k hlt).1;omega) (by have:=oC.1;omega)).mono ?_;rintro e w4 ⟨⟨s6,p6,n6,c6,t6,q6,m6,d6,rfl,hU⟩,hJ⟩;have bE:=bt cG hJ;have cX:=QRow.keep (λj=>(IsQ.solid _:Bu (addQ F Y x k j))) I.1 bE.1;have eP:=Kh (addQ.put cX hlt hU);have nD:=Kh (show ∀v0 v1 v2 v3,w0.grownBy ((((w4.setCell ⟨g,k*4,none⟩ v0).setCell ⟨g,k*4+1,none⟩ v1).setCell ⟨g,k*4+2,none⟩ v2).setCell ⟨g,k*4+3,none⟩ v3) (some g)from λ_ _ _ _=>Ej bB.1 bE.1);have H4:=Kh ((h.1.trans (I32.below bE.1)).trans (I32.put4 cX.sts (k*4) (k*4+1) (k*4+2) (k*4+3) (.bool s6) (.slice p6 n6 c6) (.bool t6) (.slice q6 m6 d6) (NotInt.bool _) (NotInt.slice _ _ _) (NotInt.bool _)));clear hU hJ cX;(first|with_reducible refine hK.out _ _ ?_ (λhHeld2=>?_) |(go_wp2_with fail;with_reducible refine hK.out _ _ ?_ (λhHeld2=>?_))))
    focus((try dsimp only);exact gL.1 _ bE.1)
    focus(clear hK K;(try simp only[Act.put,Bo,Bt,Bp]))
    refine Aj 13 ?_;refine Js 14 rfl (λK hK=>?_);go_simp
    refine hK.out _ _ ?_;clear hK K
    (try simp only[Act.put,Bo,Bt,Bp])
    all_goals clear I bB h
    all_goals go_wp2
    all_goals go_roundw
    all_goals first
     | exact⟨k+1,by omega,by go_num,eP.1,nD.1 _ _ _ _,H4.1⟩
     |(simp[intOf];omega)
  ·obtain rfl:k=N:=by omega
   go_wp2;go_end0;exact⟨⟨_,rfl⟩,QRow.congr bC.1 (λj hj=>by unfold addQ;rw[if_pos hj]),(Af g cF.1).trans U.1,(I32.below cF.1).trans Z.1⟩
def Fe (V:Nat->Rat) (T:Nat->Nat->Rat) (k q:Nat):Rat:=sumQ (λi=>V i*T i q) k
theorem Uz (R C G:Nat) (gs:Nat->Nat) (B0:Nat) (V:Nat->Rat) (T:Nat->Nat->Rat) (v:Value) (w:World) (hG:GM T R C w G gs B0) (hv:QL (λj=>IsQ (V j)) w v R) (hR:R<=72) (hC:C<=1000) (hV:∀j,j<R->hq (V j)<=430000000) (hT:∀i q,i<R->q<C->hq (T i q)<=12100000000):
  Calls prog 70 #[v,.slice (some ⟨G,0,none⟩) R R,.int .i64 C] w λe w'=>(∃g,e=.returned (.slice (some ⟨g,0,none⟩) C C)/\w.heap.size<=g/\QRow (λq=>IsQ (Fe V T R q)) w' g C C)/\Below w.heap.size w w':=by
 obtain⟨pv,cv,rfl,hO⟩:∃p c,v=.slice p R c/\(0<R->∃J O,p=some ⟨J,O,none⟩/\J<w.heap.size/\∀j,j<R->QE (IsQ (V j)) w J (O+j*4)):=by
  rcases hv with⟨h,a,c,e⟩ |⟨g,o,cap,e,h1,h2⟩
  ·exact⟨a,c,by rw[h];exact e,λh2=>by omega⟩
  ·exact⟨_,cap,e,λ_=>⟨g,o,rfl,h1,h2⟩⟩
 have mB:=Kh (show ∀k q,k<=R->q<C->hq (Fe V T k q)<=950000000000 from λk q hk hq=>by
  have h1:=D2 (λi=>V i*T i q) 12530000000 k (λi hi=>by
   have h2:=B7 (V i) (T i q);have h3:=hV i (by omega);have h4:=hT i q (by omega) hq;omega)
  have h5:k*(12530000000+1)<=72*(12530000000+1):=Nat.mul_le_mul_right _ (by omega);unfold Fe;omega)
 have gU:=Kh hO;have HV:=Kh hV;have HT:=Kh hT;have bA:=Kh hG;clear hv hO hV hT hG;go_enter func70,ntmps70
 go_wp2_with fail
 refine(Pf C w hC).mono ?_;rintro e w1 ⟨⟨g,rfl,Y,I⟩,bC⟩;have gP:=Kh (show QRow (λq=>IsQ (Fe V T 0 q)) w1 g C C from I);have gF:=Kh (bA.1.keep bC)
 have hB:=Kh (λ(h:0<R)=>(show ∃J O,pv=some ⟨J,O,none⟩/\J<g/\∀j,j<R->QE (IsQ (V j)) w1 J (O+j*4)from by
  obtain⟨J,O,e,h1,h2⟩:=gU.1 h;exact⟨J,O,e,nT h1 Y,λj hj=>(h2 j hj).keep (IsQ.solid _) bC⟩))
 have cC:=Kh (show G<g/\∀i,i<R->gs i<g from⟨nT bA.1.stk.1 Y,λi hi=>nT (bA.1.row i hi).sts.1 Y⟩);have gA:=Kh bC;have gL:=Kh Y;clear bC Y I bA gU;go_wp2_with fail
 go_loopw [13] (λii wr=>∃k:Nat,k<=R/\ii=.int .i64 k/\QRow (λq=>IsQ (Fe V T k q)) wr g C C/\w1.grownBy wr (some g)/\I32 w1 wr) (λii _=>R - (intOf ii).toNat)
 case atStart=>exact⟨0,Nat.zero_le _,rfl,gP.1,Af g (Below.refl _ _),I32.refl _⟩
 case round=>
  obtain⟨k,hk,rfl,I,hJ,hH⟩:=hrel;obtain⟨we,rfl⟩:∃we:World,we=wr:=⟨_,rfl⟩
  have cD:=Kh I;have bB:=Kh hJ;have cA:=Kh hH;clear I hJ hH gP;by_cases hlt:k<R
  ·have oI:(k:Int)<(R:Int):=by omega
   obtain⟨J,O,nC,oH,hM⟩:=hB.1 (by omega);subst nC;have hL:=(hM k hlt).butR cA.1 bB.1 (by omega);have gN:=Kh hL;obtain⟨s0,p0,n0,c0,t0,q0,m0,d0,a0,a1,a2,a3,hx⟩:=hL;have HX:=Kh (show Qs we s0 p0 n0 c0 t0 q0 m0 d0 (V k)from hx);clear hM hx;go_wp2_with fail
   refine(Ml s0 p0 n0 c0 t0 q0 m0 d0 (V k) we HX.1 (by have:=HV.1 k hlt;omega)).mono ?_;rintro e wk ⟨rfl,U⟩;have gS:=Kh (QRow.keep (λ_=>IsQ.solid _) cD.1 U);have aX:=Kh (bB.1.trans (Af g U));have cB:=Kh (cA.1.trans (I32.below U));have hZ:=Kh (gN.1.keep (IsQ.solid _) U);clear U a0 a1 a2 a3 HX gN cD bB cA;by_cases hz:V k=0
   ·have h0:(!decide (V k=0))=false:=by rw[decide_eq_true hz];rfl
    rw[h0];have mA:=Kh (show QRow (λq=>IsQ (Fe V T (k+1) q)) wk g C C from gS.1.congr (λq _=>by unfold Fe;rw[sumQ,hz];congr 1;grind));clear hz h0;go_wp2;go_roundw
    case rel=>exact⟨k+1,by omega,by go_num,mA.1,aX.1,cB.1⟩
    case measure=>simp[intOf];omega
   ·have h0:(!decide (V k=0))=true:=by rw[decide_eq_false hz];rfl
    rw[h0];have cF:=(gF.1.row k hlt).i32 (λ_=>IsQ.solid _) cB.1 aX.1 (by have:=cC.1.2 k hlt;omega);have oG:gs k<g:=cC.1.2 k hlt;have oF:G<g:=cC.1.1;have l0:=aX.1.cell (gF.1.at_ k hlt) (λe=>by injection e with e;have e2:G=g:=e;omega);obtain⟨s0,p0,n0,c0,t0,q0,m0,d0,a0,a1,a2,a3,hx⟩:=hZ.1;have HX:=Kh (show Qs wk s0 p0 n0 c0 t0 q0 m0 d0 (V k)from hx);have hX:=Kh (λW (Z:Below wk.heap.size wk W)=>Rk g C C (gs k) 0 C 0 (λq=>Fe V T k q) (T k) s0 p0 n0 c0 t0 q0 m0 d0 (V k) W (gS.1.keep (λ_=>IsQ.solid _) Z) (by omega) (nT cF.sts.1 Z.size) (λj hj=>by rw[Nat.zero_add];exact(cF.val j hj).keep (IsQ.solid _) Z) (HX.1.keep Z) (by have:=HV.1 k hlt;omega) (λj hj=>⟨mB.1 k j hk hj,by have:=HT.1 k j hlt hj;omega⟩) (by omega) (Nat.zero_le _) (λj hj=>absurd hj (Nat.not_lt_zero _)));clear hx cF hz h0;go_upto_region 6 with(fail)
    refine J2 (λW=>W.cell? ⟨G,k,none⟩=some (.slice (some ⟨gs k,0,none⟩) C C)/\W.cell? ⟨J,O+k*4,none⟩=some (.bool s0)/\W.cell? ⟨J,O+k*4+1,none⟩=some (.slice p0 n0 c0)/\W.cell? ⟨J,O+k*4+2,none⟩=some (.bool t0)/\W.cell? ⟨J,O+k*4+3,none⟩=some (.slice q0 m0 d0)) (λW Z=>⟨Aq Z l0,Aq Z a0,Aq Z a1,Aq Z a2,Aq Z a3⟩) (λoC hHeld0=>?_);refine Aj 0 ?_;refine Aj 1 ?_;refine Aj 2 ?_;refine Aj 3 ?_;refine Aj 4 ?_;refine Aj 5 ?_;refine Aj 6 ?_;refine Aj 7 ?_;refine Aj 8 ?_;refine Js 9 rfl (λK hK=>?_);focus(go_simp;refine(hX.1 _ (Below.refl _ wk).drew).mono ?_;rintro e w8 ⟨⟨v8,rfl⟩,hN,hI,bE⟩;have iL:=Kh hN;have hY:=Kh ((Af g (Below.refl _ wk).drew).trans hI);have eP:=Kh ((I32.below (Below.refl _ wk).drew).trans bE);clear hN hI bE;(first|with_reducible refine hK.out _ _ ?_ |(go_wp2_with fail;with_reducible refine hK.out _ _ ?_)))
    clear hK K
    (try simp only[Act.put,Bo,Bt,Bp])
    go_wp2;go_roundw
    case rel=>exact⟨k+1,by omega,by go_num,iL.1,aX.1.trans hY.1,cB.1.trans eP.1⟩
    case measure=>simp[intOf];omega
  ·obtain rfl:k=R:=by omega
   go_wp2;go_ret;exact⟨⟨g,rfl,gL.1,cD.1⟩,Ae gA.1 bB.1 gA.1.size gL.1⟩
theorem Xa (R C G:Nat) (gs:Nat->Nat) (I:Nat) (V:Nat->Rat) (T:Nat->Nat->Rat) (v:Value) (w:World) (O:GM T R C w G gs I) (h:QL (λj=>IsQ (V j)) w v R) (U:R<=72) (J:C<=1000) (hV:∀j,j<R->hq (V j)<=430000000) (Y:∀i q,i<R->q<C->hq (T i q)<=430000000):
  Calls prog 70 #[v,.slice (some ⟨G,0,none⟩) R R,.int .i64 C] w λe w'=>(∃g,e=.returned (.slice (some ⟨g,0,none⟩) C C)/\w.heap.size<=g/\QRow (λq=>IsQ (Fe V T R q)) w' g C C)/\Below w.heap.size w w':=
 Uz R C G gs I V T v w O h U J hV (λi q Z hq=>nS (Y i q Z hq) (by decide))
end Go.Proofs.YtenlbhlllgppmaaGreatDoor
namespace Go.Proofs.YtenlbhlllgppmaaGreatDoor
open Tryz
open Go.RowKit
theorem OwnQ.fromO {F:Nat->FP} {w:World} {B n:Nat} {p:Option Addr} {c:Nat} (h:OwnQ F w B (.slice p n c) n):∀a,p=some a->B<=a.block:=by
 intro a J;rcases h.row with⟨_,I⟩ |⟨g,cap,I,hB,_⟩
 ·injection I with h2
  rw[J]at h2;cases h2
 ·injection I with h2
  rw[J]at h2;injection h2 with h2
  rw[h2];exact hB
end Go.Proofs.YtenlbhlllgppmaaGreatDoor
namespace Go.Proofs.YtenlbhlllgppmaaGreatDoor
open Tryz
open Go.RowKit Eli
theorem Sx (R C J:Nat) (U:Option Addr) (O:Nat) (T:Nat->Nat->Rat) (W:World) (hA:QL (λj=>IsQ (T (j / C) (j % C))) W (.slice U J O) J) (I:R*C=J) (hR:R<=1000) (hC:C<=1000) (hT:∀i q,i<R->q<C->hq (T i q)<=430000000):
  Calls prog 71 #[.agg #[.int .i64 R,.int .i64 C,.slice U J O]] W λe w'=>(∃G gs,e=.returned (.slice (some ⟨G,0,none⟩) R R)/\GM T R C w' G gs W.heap.size)/\Below W.heap.size W w':=by
 have Z:∀i q,q<C->T i q=(λj=>T (j / C) (j % C)) (i*C+q):=λi q hq=>by
  dsimp only;rw[show(i*C+q) / C=i by rw[Nat.mul_comm,Nat.mul_add_div (by omega),Nat.div_eq_of_lt hq,Nat.add_zero],show(i*C+q) % C=q by rw[Nat.mul_comm,Nat.mul_add_mod,Nat.mod_eq_of_lt hq]]
 rcases hA with⟨h,_⟩ |⟨gA,oA,cap,e,hg,hq⟩
 ·exact Nv R C J 0 0 O U (λj=>T (j / C) (j % C)) T W (λh2=>by omega) (λj Y=>by omega) I (by omega) (by omega) (λj Y=>by omega) Z
 ·injection e with e1 e2 e3
  exact Nv R C J gA oA O U (λj=>T (j / C) (j % C)) T W (λ_=>⟨e1,hg⟩) hq I (by omega) (by omega) (λj Y=>by
   have V:0<C:=by
    rcases Nat.eq_zero_or_pos C with h|h
    ·rw[h,Nat.mul_zero]at I;omega
    ·exact h
   exact nS (hT (j / C) (j % C) (Nat.div_lt_of_lt_mul (by rw[Nat.mul_comm,I];exact Y)) (Nat.mod_lt _ V)) (by decide)) Z
theorem Ww (R C C2:Nat) (pA pB:Option Addr) (cA cB:Nat) (A B:Nat->Nat->Rat) (w:World) (hA:QL (λj=>IsQ (A (j / C) (j % C))) w (.slice pA (R*C) cA) (R*C)) (hB:QL (λj=>IsQ (B (j / C2) (j % C2))) w (.slice pB (C*C2) cB) (C*C2)) (hR:R<=72) (hC:C<=72) (qS:C2<=72) (nA:∀i q,i<R->q<C->hq (A i q)<=430000000) (nB:∀i q,i<C->q<C2->hq (B i q)<=430000000):
  Calls prog 29 #[.agg #[.int .i64 R,.int .i64 C,.slice pA (R*C) cA],.agg #[.int .i64 C,.int .i64 C2,.slice pB (C*C2) cB]] w λe w'=>(∃p c,e=.returned (.tuple #[.agg #[.int .i64 R,.int .i64 C2,.slice p (R*C2) c],.int .i64 0])/\QL (λj=>IsQ (Fe (A (j / C2)) B C (j % C2))) w' (.slice p (R*C2) c) (R*C2))/\Below w.heap.size w w':=by
 obtain⟨RA,gU⟩:∃x,R*C=x:=⟨_,rfl⟩
 obtain⟨RB,hD⟩:∃x,C*C2=x:=⟨_,rfl⟩
 obtain⟨RP,hZ⟩:∃x,R*C2=x:=⟨_,rfl⟩
 rw[gU]at hA ⊢;rw[hD]at hB ⊢;rw[hZ];have oI:=Kh (λW=>Jm R C RA pA cA W (by omega) (by omega) gU);have oJ:=Kh (λW=>Jm C C2 RB pB cB W (by omega) (by omega) hD);have oF:=Kh (λW (Z:Below w.heap.size w W)=>Sx R C RA pA cA A W (hA.keep (λ_=>IsQ.solid _) Z) gU (by omega) (by omega) nA);have oG:=Kh (λW (Z:Below w.heap.size w W)=>Sx C C2 RB pB cB B W (hB.keep (λ_=>IsQ.solid _) Z) hD (by omega) (by omega) nB);have qB:=Kh nA;have qC:=Kh nB;have qA:=Kh hZ;clear hA hB nA nB gU hD hZ;go_enter func29,ntmps29
 go_wp2_with fail
 obtain⟨w0,pF,XA,XB,XR,oS⟩:=Kk w #[.int .i64 R,.int .i64 C,.slice pA RA cA] 32 #[.int .i64 C,.int .i64 C2,.slice pB RB cB] 32 #[.int .i64 0,.int .i64 0,.slice none 0 0] 32;rw[pF];obtain⟨ga,mC⟩:∃x,w.heap.size=x:=⟨_,rfl⟩
 obtain⟨gb,mD⟩:∃x,w.heap.size+1=x:=⟨_,rfl⟩
 obtain⟨gr,bC⟩:∃x,w.heap.size+2=x:=⟨_,rfl⟩
 have I:w.heap.size+1+1=gr:=bC;have oE:=Kh (show w.heap.size<=gr by omega);rw[mC]at XA;rw[mD]at XB
 (first|rw[bC]at XR|rw[I]at XR)
 try rw[bC]
 try rw[I]
 try rw[mD]
 try rw[mC]
 have dY:=Kh XA;have oL:=Kh XB;have oM:=Kh XR;have nZ:=Kh oS;clear pF XA XB XR oS mC mD bC I;have a0:=dY.1.at_ 0 rfl;have a1:=dY.1.at_ 1 rfl;have a2:=dY.1.at_ 2 rfl;go_wp2_with fail
 refine(oI.1 w0).mono ?_;rintro e w2 ⟨rfl,gA⟩;have hH:=Kh (bk dY gA);have bA:=Kh (bk oL gA);have hL:=Kh (bk oM gA);have oA:=bt nZ gA;clear a0 a1 a2 gA dY oL oM nZ oI;have b0:=bA.1.at_ 0 rfl;have b1:=bA.1.at_ 1 rfl;have b2:=bA.1.at_ 2 rfl;go_wp2_with fail
 refine(oJ.1 w2).mono ?_;rintro e w3 ⟨rfl,gF⟩;have bE:=Kh (bk hH gF);have O:=Kh (bk bA gF);have bY:=Kh (bk hL gF);have aX:=bt oA gF;clear b0 b1 b2 gF hH bA hL oA oJ;have a0:=bE.1.at_ 0 rfl;have a1:=bE.1.at_ 1 rfl;have a2:=bE.1.at_ 2 rfl;have b0:=O.1.at_ 0 rfl;have b1:=O.1.at_ 1 rfl;have b2:=O.1.at_ 2 rfl;have qH:((C:Int) !=(C:Int))=false:=by simp
 go_upto_region 3 with(fail)
 refine J2 (λW=>W.cell? ⟨ga,0,none⟩=some (.int .i64 R)/\W.cell? ⟨ga,1,none⟩=some (.int .i64 C)/\W.cell? ⟨ga,2,none⟩=some (.slice pA RA cA)/\W.cell? ⟨gb,0,none⟩=some (.int .i64 C)/\W.cell? ⟨gb,1,none⟩=some (.int .i64 C2)/\W.cell? ⟨gb,2,none⟩=some (.slice pB RB cB)) (λW Z=>⟨Aq Z a0,Aq Z a1,Aq Z a2,Aq Z b0,Aq Z b1,Aq Z b2⟩) (λgP hHeld0=>?_);refine Aj 0 ?_;refine Aj 2 ?_;refine G6 1 rfl (λK hK=>?_);focus(go_simp;refine(oF.1 _ (aX.1.trans ((Below.refl _ w3).drew.mono aX.1.size))).mono ?_;rintro e w4 ⟨⟨G,gs,rfl,gL⟩,oT⟩;have gN:=Kh ((Below.refl _ w3).drew.trans oT:Below w3.heap.size w3 w4);have dC:=Kh gL;clear gL oT;(first|with_reducible refine hK.out _ _ ?_ (λhHeld1=>?_) |(go_wp2_with fail;with_reducible refine hK.out _ _ ?_ (λhHeld1=>?_))))
 focus((try dsimp only);exact gP.1 _ gN.1)
 focus(clear hK K;(try simp only[Act.put,Bo,Bt,Bp]))
 refine G6 3 rfl (λK hK=>?_);focus(go_simp;refine(oG.1 _ (aX.1.trans (gN.1.mono aX.1.size))).mono ?_;rintro e w5 ⟨⟨G',oQ,rfl,gL⟩,iL⟩;have cX:=Kh (gN.1.trans (iL.mono gN.1.size):Below w3.heap.size w3 w5);have J:=Kh (dC.1.keep iL);have hU:=Kh gL;have hV:=Kh dC.1.stk.1;clear gL iL dC;(first|with_reducible refine hK.out _ _ ?_ (λhHeld2=>?_) |(go_wp2_with fail;with_reducible refine hK.out _ _ ?_ (λhHeld2=>?_))))
 focus((try dsimp only);exact gP.1 _ cX.1)
 focus(clear hK K;(try simp only[Act.put,Bo,Bt,Bp]))
 refine Aj 4 ?_;refine Js 5 rfl (λK hK=>?_);go_simp
 refine hK.out _ _ ?_;clear hK K
 (try simp only[Act.put,Bo,Bt,Bp])
 clear a0 a1 a2 b0 b1 b2 qH oF oG;have oK:=Kh (aX.1.trans (cX.1.mono aX.1.size));have hI:=Kh (O.1.below_ cX.1 O.1.lt);have hM:=Kh (bY.1.below_ cX.1 bY.1.lt);have bB:=Kh (And.intro (show gb<G from nT O.1.lt (nS ((Below.refl w3.heap.size w3).drew.size) J.1.hB)) (And.intro (show gr<G from nT bY.1.lt (nS ((Below.refl w3.heap.size w3).drew.size) J.1.hB)) (And.intro (show w.heap.size<=G from nS aX.1.size (nS ((Below.refl w3.heap.size w3).drew.size) J.1.hB)) (And.intro (show G<G' from nT hV.1 hU.1.hB) (show ∀i,i<C->G<oQ i from λi V=>nT hV.1 (hU.1.ge i V))))));clear bE O bY cX aX hV;go_wp2_with fail
 go_loopw [31] (λii wr=>∃(k:Nat) (gt:Nat->Nat),k<=R/\ii=.int .i64 k/\GM (λi q=>Fe (A i) B C q) k C2 wr G gt w.heap.size/\(∀i,k<=i->i<R->wr.cell? ⟨G,i,none⟩=w5.cell? ⟨G,i,none⟩)/\w5.grownBy wr (some G)/\I32 w5 wr) (λii _=>R - (intOf ii).toNat)
 case atStart=>exact⟨0,gs,Nat.zero_le _,rfl,⟨J.1.stk,J.1.free,bB.1.2.2.1,λi V=>absurd V (Nat.not_lt_zero _),λi V=>absurd V (Nat.not_lt_zero _),λi V=>absurd V (Nat.not_lt_zero _),λi V=>absurd V (Nat.not_lt_zero _),λi j V=>absurd V (Nat.not_lt_zero _)⟩,λ_ _ _=>rfl,Af G (Below.refl _ _),I32.refl _⟩
 case round=>
  obtain⟨k,gt,hk,rfl,oX,pD,bC,oR⟩:=hrel;obtain⟨we,rfl⟩:∃we:World,we=wr:=⟨_,rfl⟩
  have dE:=Kh oX;have hW:=Kh pD;have cF:=Kh bC;have hS:=Kh oR;have X5:=cF.1.block gb hI.1.lt (λe=>by injection e with e;have:=bB.1.1;omega);have hJ:=Kh (show Blk we gb 32 #[.int .i64 C,.int .i64 C2,.slice pB RB cB]from X5.trans hI.1);have X6:=cF.1.block gr hM.1.lt (λe=>by injection e with e;have:=bB.1.2.1;omega);have hN:=Kh (show Blk we gr 32 #[.int .i64 0,.int .i64 0,.slice none 0 0]from X6.trans hM.1);clear oX pD bC oR X5 X6;by_cases hlt:k<R
  ·have qW:(k:Int)<(R:Int):=by omega
   have l0:=(hW.1 k (nR k) hlt).trans (J.1.at_ k hlt);have b1:=hJ.1.at_ 1 rfl;have pC:=(J.1.row k hlt).i32 (λ_=>IsQ.solid _) hS.1 cF.1 (J.1.ne k hlt);have oZ:=hU.1.but hS.1 cF.1 (by have:=bB.1.2.2.2.1;omega) (λi V=>by have:=bB.1.2.2.2.2 i V;omega);have oH:=Kh (λW (Z:Below we.heap.size we W)=>Xa C C2 G' oQ _ (A k) B (.slice (some ⟨gs k,0,none⟩) C C) W (oZ.keep Z) ((pC.keep (λ_=>IsQ.solid _) Z).ql C) hC (by omega) (λj hj=>qB.1 k j hlt hj) qC.1);clear pC oZ;go_upto_region 7 with(fail)
   refine J2 (λW=>W.cell? ⟨G,k,none⟩=some (.slice (some ⟨gs k,0,none⟩) C C)/\W.cell? ⟨gb,1,none⟩=some (.int .i64 C2)/\W.cell? ⟨G,k,none⟩=some (.slice (some ⟨gs k,0,none⟩) C C)/\W.frozen? ⟨G,k,none⟩=false) (λW Z=>⟨Aq Z l0,Aq Z b1,Aq Z l0,Ab Z (by rw[l0];rfl) (dE.1.free k)⟩) (λgP hHeld0=>?_);refine Aj 0 ?_;refine Aj 1 ?_;refine Aj 2 ?_;refine Aj 3 ?_;refine Aj 4 ?_;refine Aj 5 ?_;refine Aj 6 ?_;refine Aj 7 ?_;refine Aj 8 ?_;refine G6 9 rfl (λK hK=>?_);focus(go_simp;refine(oH.1 _ (Below.refl _ we).drew).mono ?_;rintro e w8 ⟨⟨g,rfl,oW,hQ⟩,oU⟩;have cD:=Kh ((Below.refl _ we).drew.trans oU:Below we.heap.size we w8);have pZ:=Kh hQ;have oD:=Kh (nS ((Below.refl we.heap.size we).drew.size) oW);clear oU hQ oW;(first|with_reducible refine hK.out _ _ ?_ (λhHeld1=>?_) |(go_wp2_with fail;with_reducible refine hK.out _ _ ?_ (λhHeld1=>?_))))
   focus((try dsimp only);exact gP.1 _ cD.1)
   focus(clear hK K;(try simp only[Act.put,Bo,Bt,Bp]))
   refine Aj 10 ?_;refine Js 11 rfl (λK hK=>?_);go_simp
   refine hK.out _ _ ?_;clear hK K
   (try simp only[Act.put,Bo,Bt,Bp])
   clear l0 b1 oH;have qI:G<g:=nT dE.1.stk.1 oD.1;obtain⟨ws,Y⟩:∃ws,w8.setCell ⟨G,k,none⟩ (.slice (some ⟨g,0,none⟩) C2 C2)=ws:=⟨_,rfl⟩
   have U:=dE.1.keep cD.1;have cC:I32 w8 ws:=Y▸I32.putU (U.stk.imp λ_=>SliceV.notU32) k _;have I:w8.grownBy ws (some G):=Y▸Ad w8 G k _
   have mB:ws.cell? ⟨G,k,none⟩=some (.slice (some ⟨g,0,none⟩) C2 C2):=by
    rw[<-Y];exact World.cell?_setCell_same' _ _ _ (by rw[cell_next cD.1 ((hW.1 k (nR k) hlt).trans (J.1.at_ k hlt))];rfl)
   have oY:GM (λi q=>Fe (A i) B C q) k C2 ws G gt w.heap.size:=by
    refine⟨Y▸Bd U.stk _ _ ⟨_,_,_,rfl⟩,λi=>Y▸Ao (U.free i),U.hB,λi V=>?_,λi V=>(U.row i V).i32 (λ_=>IsQ.solid _) cC I (U.ne i V),U.ge,U.ne,U.inj⟩;rw[<-Y,World.cell?_setCell_other _ _ _ _ (by simp <;> omega)];exact U.at_ i V
   have pV:=Kh (oY.more (g:=g) (by rw[mB];rfl) (pZ.1.i32 (λ_=>IsQ.solid _) cC I (by omega)) (by have:=bB.1.2.2.1;omega) (by omega) (λi V=>by have h1:=(dE.1.row i V).sts.1;have h2:=oD.1;omega) mB)
   have pY:=Kh (show ∀i,k+1<=i->i<R->ws.cell? ⟨G,i,none⟩=w5.cell? ⟨G,i,none⟩from λi h1 h2=>by
    rw[<-Y,World.cell?_setCell_other _ _ _ _ (by simp <;> omega),cell_next cD.1 ((hW.1 i (by omega) h2).trans (J.1.at_ i h2)),J.1.at_ i h2])
   have pU:=Kh ((cF.1.trans (Af G cD.1)).trans I);have pT:=Kh ((hS.1.trans (I32.below cD.1)).trans cC);rw[Y];clear Y U cC I mB oY qI;go_wp2;go_roundw
   case rel=>exact⟨k+1,_,by omega,by go_num,pV.1,pY.1,pU.1,pT.1⟩
   case measure=>simp[intOf];omega
  ·obtain rfl:k=R:=by omega
   have hG:=Kh (Ae oK.1 cF.1 oK.1.size bB.1.2.2.1);have b1:=hJ.1.at_ 1 rfl;clear hlt hk;go_wp2_with fail
   refine(Mk (λi q=>Fe (A i) B C q) k C2 k G k gt w.heap.size we dE.1 (nR _) (by omega) (by omega)).mono ?_;rintro e w9 ⟨⟨v9,rfl,hE⟩,mA⟩;obtain⟨p9,c9,rfl⟩:=Lh hE.ql;have mE:=hE.ql;have oV:=hE.fromO;have X9:=bk hN mA;have hP:=hG.1.trans (mA.mono hG.1.size);rw[qA.1]at mE ⊢;have x0:=X9.at_ 0 rfl;have x1:=X9.at_ 1 rfl;have x2:=X9.at_ 2 rfl;have f0:=X9.free_ 0;have f1:=X9.free_ 1;have f2:=X9.free_ 2;have pE:Stk NotU32 w9 gr:=Stk.of X9 (by intro v hv;simp at hv;rcases hv with rfl|rfl|rfl <;> exact λ_ h=>by cases h);have pX:=Kh (show ∀W,I32 w9 W->w9.grownBy W (some gr)->QL (λj=>IsQ (Fe (A (j / C2)) B C (j % C2))) W (.slice p9 RP c9) RP from λW h1 h2=>mE.boxed (λ_=>IsQ.solid _) h1 h2 (λa ha e=>by have h3:=oV a ha;have h4:=hN.1.lt;omega));have hT:=Kh (A9 (w:=w9) (R:=gr) (v0:=.int .i64 (k:Int)) (v1:=.int .i64 (C2:Int)) (v2:=.slice p9 RP c9) (by rw[x0];rfl) (by rw[x1];rfl) (by rw[x2];rfl));have pW:=Kh (Cc pE (v0:=.int .i64 (k:Int)) (v1:=.int .i64 (C2:Int)) (v2:=.slice p9 RP c9) (λ_ h=>by cases h) (λ_ h=>by cases h));have oC:=Kh (((Ad w9 gr 0 (.int .i64 (k:Int))).trans (Ad _ gr 1 (.int .i64 (C2:Int)))).trans (Ad _ gr 2 (.slice p9 RP c9)));have oB:=Kh hP;clear hE mE oV mA hP X9 pE b1;go_wp2;have e0:=hT.1.1;have e1:=hT.1.2.1;have e2:=hT.1.2.2;try simp only[Exit.inBlock,Exit.then]
   refine bodyPost_ret (by simp[results,results29,go_sem,e0,e1,e2];try rfl) rfl ?_;exact⟨⟨p9,c9,rfl,pX.1 _ pW.1 oC.1⟩,Ae oB.1 oC.1 oB.1.size oE.1⟩
end Go.Proofs.YtenlbhlllgppmaaGreatDoor
namespace Go.Proofs.YtenlbhlllgppmaaGreatDoor
open Tryz
theorem Le {n l:Nat} {c:Int} {L:List Nat} {f:Nat->Nat×Int} {k:Nat}:∀j,(∀i,i<j->Az n l (L.getD i 0)≠k)->Ft n l c L j f k=f k
 | 0,_=>rfl
 | j+1,h=>by
  rw[Ft,Qy,if_neg (λe=>h j (nU _) e.symm)];exact Le j (λi I=>h i (by omega))
theorem M3 {n l:Nat} {c:Int} {L:List Nat} {f:Nat->Nat×Int} {k i:Nat} (J:Az n l (L.getD i 0)=k):∀j,i<j->(∀I,I<j->Az n l (L.getD I 0)=k->I=i)->Ft n l c L j f k=(i,c)
 | 0,hi,_=>absurd hi (Nat.not_lt_zero _)
 | j+1,hi,h=>by
  rw[Ft,Qy];by_cases e:k=Az n l (L.getD j 0)
  ·rw[if_pos e,h j (nU _) e.symm]
  ·rw[if_neg e]
   refine M3 J j ?_ (λI V U=>h I (by omega) U);have:i≠j:=λO=>e (by rw[<-O,J])
   omega
theorem Vq {n:Nat} (hn:0<n):(pts n (n*n)).Nodup:=by
 rw[Ci hn _ (nR _)];exact List.nodup_range.filter _
theorem Ax {L:List Nat} {i:Nat} (I:i<L.length):L.getD i 0∈L:=by
 rw[List.getD_eq_getElem?_getD,List.getElem?_eq_getElem I];exact List.getElem_mem I
theorem Pv {L:List Nat} (h:L.Nodup) {i j:Nat} (I:i<L.length) (J:j<L.length) (e:L.getD i 0=L.getD j 0):i=j:=by
 rw[List.getD_eq_getElem?_getD,List.getElem?_eq_getElem I,List.getD_eq_getElem?_getD,List.getElem?_eq_getElem J]at e;exact(List.getElem_inj h).1 (by simpa using e)
theorem H9 {n i j s t:Nat} (hn:0<n) (U:i<(pts n (n*n)).length) (V:j<(pts n (n*n)).length) (h:pun n s=true) (ht:pun n t=true)
  (e:Az n s ((pts n (n*n)).getD i 0)=Az n t ((pts n (n*n)).getD j 0)):i=j/\s % n=t % n:=by
 have O:=Ax U;have mj:=Ax V;have J:=Fk O;obtain⟨r,_,_,ru,re⟩:=Ib (k:=(pts n (n*n)).getD i 0) J h;have Y:Az n (r*t) ((pts n (n*n)).getD j 0)=(pts n (n*n)).getD i 0:=by rw[<-Gr hn,<-e,re]
 have Z:=R9 mj O (J0 ru ht) Y;have I:=Pv (Vq hn) U V Z.symm;subst I;exact⟨rfl,Vo hn (I4 O).1 e⟩
theorem Gq {n:Nat} {D:Int} {j s k:Nat} (hn:0<n) (O:j<(pts n (n*n)).length) (h1:1<=s) (Y:s<=n) (J:pun n s=true) (e:Az n s ((pts n (n*n)).getD j 0)=k):∀m,s<=m->m<=n->Bk n D (pts n (n*n)) m k=(j,Pl.kroP D s)
 | 0,h,_=>by omega
 | m+1,h,hm=>by
  rw[Bk];by_cases hs:s=m+1
  ·subst hs
   rw[if_pos J];exact M3 e _ O (λi V U=>(H9 hn V O J J (U.trans e.symm)).1)
  ·have I:=Gq hn O h1 Y J e m (by omega) (by omega) (D:=D)
   split
   ·rename_i hu2
    rw[Le _ (λi V U=>?_)]
    ·exact I
    ·have Z:=(H9 hn V O hu2 J (U.trans e.symm)).2
     rcases Nat.lt_or_ge (m+1) n with h3|h3
     ·rw[Nat.mod_eq_of_lt h3,Nat.mod_eq_of_lt (by omega)]at Z
      omega
     ·obtain rfl:m+1=n:=by omega
      rw[Nat.mod_self,Nat.mod_eq_of_lt (by omega)]at Z;omega
   ·exact I
theorem Vk (u v A C:Int) (n:Nat):(u*(A % n)+v*(C % n)) % n=(u*A+v*C) % n:=by
 rw[Int.add_emod,Int.mul_emod u (A % n),Int.mul_emod v (C % n),Int.emod_emod_of_dvd A (Int.dvd_refl _),Int.emod_emod_of_dvd C (Int.dvd_refl _),<-Int.mul_emod,<-Int.mul_emod,<-Int.add_emod]
namespace Pl
open Tryz
def P4 (l:List Int) (v:Int):Nat:=l.foldr (λx n=>2*n+if x=v then 1 else 0) 0
def fD (d pos neg r s:Nat):Bool:=if Nat.testBit neg r==Nat.testBit neg s then Nat.testBit pos (r*s % d)else Nat.testBit neg (r*s % d)
def Sl (d:Nat):List Nat:=(List.range d).filter λr=>Nat.gcd r d==1
def mulCh (D:Int):Bool:=
 let d:=D.natAbs
 let t:=Gc D
 let pos:=P4 t 1
 let neg:=P4 t (-1)
 let us:=Sl d
 us.all λr=>(Nat.testBit pos r != Nat.testBit neg r)&&us.all λs=>fD d pos neg r s
def Cv (i:Nat):Bool:=(List.range 20).all λj=>let D:Int:=((20*i+j:Nat):Int) - 120;!fund D||mulCh D
theorem mO:Cv 0=true:=by decide +kernel
theorem mP:Cv 1=true:=by decide +kernel
theorem mQ:Cv 2=true:=by decide +kernel
theorem mR:Cv 3=true:=by decide +kernel
theorem mS:Cv 4=true:=by decide +kernel
theorem mT:Cv 5=true:=by decide +kernel
theorem mU:Cv 6=true:=by decide +kernel
theorem mV:Cv 7=true:=by decide +kernel
theorem mW:Cv 8=true:=by decide +kernel
theorem mX:Cv 9=true:=by decide +kernel
theorem kX:Cv 10=true:=by decide +kernel
theorem kY:Cv 11=true:=by decide +kernel
theorem kZ:Cv 12=true:=by decide +kernel
theorem R5:∀i,i<13->Cv i=true
 | 0,_=>mO|1,_=>mP|2,_=>mQ|3,_=>mR|4,_=>mS|5,_=>mT|6,_=>mU|7,_=>mV|8,_=>mW|9,_=>mX|10,_=>kX|11,_=>kY|12,_=>kZ
 | n+13,h=>absurd h (by omega)
theorem iB {D:Int} (O:-120<=D) (U:D<=120) (J:fund D=true):mulCh D=true:=by
 have h:=R5 ((D+120).toNat / 20) (by omega);unfold Cv at h;rw[List.all_eq_true]at h;have I:=h ((D+120).toNat % 20) (List.mem_range.2 (Nat.mod_lt _ (by omega)));rw[Nat.div_add_mod]at I;have e:(((D+120).toNat:Nat):Int) - 120=D:=by omega
 simp only[e,J]at I
 simpa using I
theorem P5 (v:Int):∀(l:List Int) (i:Nat),Nat.testBit (P4 l v) i=decide (l[i]?=some v)
 | [],i=>by simp[P4]
 | x :: l,0=>by
  show Nat.testBit (2*P4 l v+if x=v then 1 else 0) 0=_;rw[Nat.testBit_zero];by_cases h:x=v
  ·simp[h]
  ·simp[h]
 | x :: l,i+1=>by
  show Nat.testBit (2*P4 l v+if x=v then 1 else 0) (i+1)=_;rw[Nat.testBit_succ,show(2*P4 l v+if x=v then 1 else 0) / 2=P4 l v by split <;> omega,P5 v l i];simp
theorem kro_mul {N:Nat} {D:Int} {a b c:Nat} (hN:0<N) (h0:-120<=D) (h1:D<=120) (hf:fund D=true) (hd:(N:Int) % D=0) (ha:0<a) (cA:a<=128) (hb:0<b) (cC:b<=128) (hc:0<c) (cD:c<=128) (ga:Nat.gcd a N=1) (gb:Nat.gcd b N=1) (gc:Nat.gcd c N=1) (h:a*b % N=c % N):
  kroP D c=kroP D a*kroP D b/\(kroP D a=1∨kroP D a=-1):=by
 have J:D.natAbs∣N:=by
  have:D∣(N:Int):=Int.dvd_of_emod_eq_zero hd;exact Int.natAbs_dvd_natAbs.2 this
 have bB:0<D.natAbs:=Nat.pos_of_dvd_of_pos J hN;have Z:∀{x:Nat},Nat.gcd x N=1->Nat.gcd x D.natAbs=1:=λhx=>Nat.eq_one_of_dvd_one (hx▸Nat.gcd_dvd_gcd_of_dvd_right _ J)
 have V:=gM h0 h1 hf;have I:=iB h0 h1 hf;unfold chk at V;simp only[Bool.and_eq_true,List.all_eq_true]at V
 have Y:∀x:Nat,0<x->x<=128->Nat.gcd x N=1->(Gc D)[x % D.natAbs]?=some (kroP D x):=by
  intro x hx gN hg;have U:=V.2 x (List.mem_range.2 (by omega));simp only[Z hg,Bool.or_eq_true,decide_eq_true_eq,bne_self_eq_false,Bool.false_eq_true,or_false,beq_iff_eq]at U;have hl:x % D.natAbs<(Gc D).length:=by unfold Gc;simpa using Nat.mod_lt x bB
  rcases U with U|U
  ·omega
  ·rw[List.getD_eq_getElem?_getD,List.getElem?_eq_getElem hl]at U
   rw[List.getElem?_eq_getElem hl,U];rfl
 have O:∀x:Nat,Nat.gcd x N=1->x % D.natAbs∈Sl D.natAbs:=λx hg=>by
  unfold Sl;rw[List.mem_filter,List.mem_range];refine⟨Nat.mod_lt _ bB,?_⟩;rw[beq_iff_eq,<-Nat.gcd_rec,Nat.gcd_comm];exact Z hg
 unfold mulCh at I;simp only[List.all_eq_true,Bool.and_eq_true]at I
 have cB:a % D.natAbs*(b % D.natAbs) % D.natAbs=c % D.natAbs:=by
  rw[<-Nat.mul_mod,<-Nat.mod_mod_of_dvd (a*b) J,h,Nat.mod_mod_of_dvd _ J]
 have m1:=(I _ (O a ga)).2 _ (O b gb);have u1:=(I _ (O a ga)).1;have u2:=(I _ (O b gb)).1;unfold fD at m1;rw[cB]at m1;simp only[P5,Y a ha cA ga,Y b hb cC gb,Y c hc cD gc,Option.some.injEq]at m1 u1 u2
 have s1:kroP D a=1∨kroP D a=-1:=by
  by_cases e:kroP D a=1
  ·exact .inl e
  ·by_cases U:kroP D a=-1
   ·exact .inr U
   ·simp[e,U]at u1
 have s2:kroP D b=1∨kroP D b=-1:=by
  by_cases e:kroP D b=1
  ·exact .inl e
  ·by_cases U:kroP D b=-1
   ·exact .inr U
   ·simp[e,U]at u2
 refine⟨?_,s1⟩;rcases s1 with s1|s1 <;> rcases s2 with s2|s2 <;>(rw[s1,s2]at m1;simp at m1;rw[s1,s2,m1];rfl)
end Pl
end Go.Proofs.YtenlbhlllgppmaaGreatDoor
namespace Go.Proofs.YtenlbhlllgppmaaGreatDoor
open Tryz
open Eli
def F6 (a b:Int) (p:Nat->Rat):Nat->Rat:=λj=>(if 0<j then(a:Rat)*p (j - 1)else 0)+(b:Rat)*p j
theorem Di (f:Nat->Nat->Rat) (n m:Nat):sumQ (λi=>sumQ (λl=>f i l) m) n=sumQ (λl=>sumQ (λi=>f i l) n) m:=by
 induction n with
 | zero=>exact(A8 (λ_ _=>rfl)).symm
 | succ n ih=>rw[sumQ,ih,<-Ap];exact Ac (λ_ _=>rfl)
theorem Sj (f:Nat->Rat) (n:Nat):sumQ f (n+1)=f 0+sumQ (λi=>f (i+1)) n:=by
 induction n with
 | zero=>show(0:Rat)+f 0=f 0+0;grind
 | succ n ih=>rw[sumQ,ih,sumQ];grind
theorem Yv (a b c d:Int) (p:Nat->Int):lin c d (lin a b p)=lin a b (lin c d p):=by
 funext j;unfold lin;by_cases h:0<j
 ·simp only[if_pos h]
  by_cases h1:0<j - 1
  ·simp only[if_pos h1];grind
  ·simp only[if_neg h1];grind
 ·simp only[if_neg h];grind
theorem Zc (a b c d:Int):∀k i,k<=i->mv (i+1) a b c d k=mv i a b c d k
 | 0,_,_=>rfl
 | k+1,i,h=>by rw[mv,mv,if_pos (by omega),if_pos (by omega),Zc a b c d k i (by omega)]
theorem fE (a b c d:Int):∀k i,i<=k->mv (i+1) a b c d (k+1)=lin a b (mv i a b c d k)
 | k,i,h=>by
  by_cases e:i=k
  ·subst e
   rw[mv,if_pos (by omega),Zc a b c d i i (nR _)]
  ·obtain⟨l,rfl⟩:∃l,k=l+1:=⟨k - 1,by omega⟩
   rw[mv,if_neg (by omega),fE a b c d l i (by omega),mv,if_neg (by omega),Yv]
theorem dJ {a b c d:Int} {k i:Nat} (h:i<=k):mv i a b c d (k+1)=lin c d (mv i a b c d k):=by
 rw[mv,if_neg (by omega)]
theorem Fw (a b:Int) (p:Nat->Int) (j:Nat):((lin a b p j:Int):Rat)=F6 a b (λi=>(p i:Rat)) j:=by
 unfold lin F6;split <;> simp <;> grind
theorem Pz (a b:Int) (p:Nat->Rat) (f:Nat->Nat->Int) (n j:Nat):sumQ (λi=>p i*F6 a b (λl=>(f i l:Rat)) j) n=F6 a b (λl=>sumQ (λi=>p i*(f i l:Rat)) n) j:=by
 unfold F6;by_cases h:0<j
 ·simp only[if_pos h]
  rw[<-Am,<-Am,<-Ap];exact Ac (λi _=>by grind)
 ·simp only[if_neg h]
  rw[<-Am,Rat.zero_add];exact Ac (λi _=>by grind)
theorem M8 (J I a b c d:Int) (p:Nat->Rat) (k j:Nat) (Z:p (k+1)=0):
  subst (F6 J I p) (k+1) a b c d (k+2) j=F6 (J*a+I*c) (J*b+I*d) (subst p k a b c d (k+1)) j:=by
 have O:sumQ (λi=>(if 0<i then(J:Rat)*p (i - 1)else 0)*(mv i a b c d (k+1) j:Int)) (k+2)=(J:Rat)*F6 a b (subst p k a b c d (k+1)) j:=by
  rw[Sj];simp only[Nat.lt_irrefl,if_false];unfold subst;rw[<-Pz a b p (λi=>mv i a b c d k),<-Am,Rat.zero_mul,Rat.zero_add];refine Ac (λi Y=>?_);rw[if_pos (by omega),fE a b c d k i (by omega),Fw,Nat.add_sub_cancel];grind
 have U:sumQ (λi=>(I:Rat)*p i*(mv i a b c d (k+1) j:Int)) (k+2)=(I:Rat)*F6 c d (subst p k a b c d (k+1)) j:=by
  rw[sumQ,Z];unfold subst;rw[<-Pz c d p (λi=>mv i a b c d k),<-Am];rw[show ∀x:Rat,x+(I:Rat)*0*((mv (k+1) a b c d (k+1) j:Int):Rat)=x from λx=>by grind];refine Ac (λi Y=>?_);rw[dJ (by omega),Fw];grind
 have V:subst (F6 J I p) (k+1) a b c d (k+2) j=(J:Rat)*F6 a b (subst p k a b c d (k+1)) j+(I:Rat)*F6 c d (subst p k a b c d (k+1)) j:=by
  rw[<-O,<-U,<-Ap];unfold subst;refine Ac (λi _=>?_);unfold F6;grind
 rw[V];unfold F6;split <;> simp <;> grind
theorem aG (a b c d I J O U:Int) (i j:Nat):∀k,subst (λl=>(mv i a b c d k l:Rat)) k I J O U (k+1) j=(mv i (a*I+b*O) (a*J+b*U) (c*I+d*O) (c*J+d*U) k j:Rat):=by
 intro k;induction k generalizing j with
 | zero=>
  show(0:Rat)+((if(0:Nat)=0 then 1 else 0:Int):Rat)*((if j=0 then 1 else 0:Int):Rat)=((if j=0 then 1 else 0:Int):Rat)
  split <;> simp <;> grind
 | succ k ih=>
  have hz:(λl=>(mv i a b c d k l:Rat)) (k+1)=0:=by
   show((mv i a b c d k (k+1):Int):Rat)=0;rw[Ju i a b c d k (k+1) (by omega)];rfl
  have Z:∀V Y,(λl=>((lin V Y (mv i a b c d k) l:Int):Rat))=F6 V Y (λl=>(mv i a b c d k l:Rat)):=λV Y=>funext (λl=>Fw V Y _ l)
  by_cases h:k<i
  ·simp only[mv,if_pos h]
   rw[Z,M8 a b I J O U _ k j hz,Fw];unfold F6;simp only[ih]
  ·simp only[mv,if_neg h]
   rw[Z,M8 c d I J O U _ k j hz,Fw];unfold F6;simp only[ih]
theorem Qu (q:Nat->Rat) (a b c d I J O U:Int) (m j:Nat):
  subst (subst q m a b c d (m+1)) m I J O U (m+1) j=subst q m (a*I+b*O) (a*J+b*U) (c*I+d*O) (c*J+d*U) (m+1) j:=by
 have V:subst (subst q m a b c d (m+1)) m I J O U (m+1) j=sumQ (λl=>sumQ (λi=>q i*(mv i a b c d m l:Int)*(mv l I J O U m j:Int)) (m+1)) (m+1):=by
  unfold subst;refine Ac (λl _=>?_);rw[Rat.mul_comm,<-Am];exact Ac (λi _=>by grind)
 rw[V,<-Di];unfold subst;refine Ac (λi _=>?_);rw[<-aG a b c d I J O U i j m];unfold subst;rw[<-Am];exact Ac (λl _=>by grind)
theorem Ob {k x y:Int} (J:k≠0) (h:Int.gcd x y=1):low (k*x) (k*y)=if y<0∨(y=0/\x<0)then(-x,-y)else(x,y):=by
 have hg:Int.gcd (k*x) (k*y)=k.natAbs:=by rw[Int.gcd_mul_left,h,Nat.mul_one]
 have V:¬(x=0/\y=0):=by
  rintro⟨rfl,rfl⟩;simp at h
 unfold low;rw[hg];by_cases hp:0<k
 ·have e:((k.natAbs:Nat):Int)=k:=by omega
  rw[e,Int.mul_tdiv_cancel_left x J,Int.mul_tdiv_cancel_left y J];have O:k*y<0↔y<0:=⟨λh=>by rcases Int.lt_or_le y 0 with I|I;exact I;exact absurd (Int.mul_nonneg (Int.le_of_lt hp) I) (by omega),λh=>Int.mul_neg_of_pos_of_neg hp h⟩
  have I:k*x<0↔x<0:=⟨λh=>by rcases Int.lt_or_le x 0 with I|I;exact I;exact absurd (Int.mul_nonneg (Int.le_of_lt hp) I) (by omega),λh=>Int.mul_neg_of_pos_of_neg hp h⟩
  have U:k*y=0↔y=0:=⟨λh=>(Int.mul_eq_zero.1 h).resolve_left J,λh=>by rw[h,Int.mul_zero]⟩
  simp only[O,I,U]
 ·have e:((k.natAbs:Nat):Int)=-k:=by omega
  have Y:(k*x).tdiv (-k)=-x:=by rw[Int.tdiv_neg,Int.mul_tdiv_cancel_left x J]
  have Z:(k*y).tdiv (-k)=-y:=by rw[Int.tdiv_neg,Int.mul_tdiv_cancel_left y J]
  rw[e,Y,Z];have hn:k<0:=by omega
  have O:k*y<0↔0<y:=⟨λh=>by rcases Int.lt_or_le 0 y with I|I;exact I;exact absurd (Int.mul_nonneg_of_nonpos_of_nonpos (Int.le_of_lt hn) I) (by omega),λh=>Int.mul_neg_of_neg_of_pos hn h⟩
  have I:k*x<0↔0<x:=⟨λh=>by rcases Int.lt_or_le 0 x with I|I;exact I;exact absurd (Int.mul_nonneg_of_nonpos_of_nonpos (Int.le_of_lt hn) I) (by omega),λh=>Int.mul_neg_of_neg_of_pos hn h⟩
  have U:k*y=0↔y=0:=⟨λh=>(Int.mul_eq_zero.1 h).resolve_left J,λh=>by rw[h,Int.mul_zero]⟩
  simp only[O,I,U,Int.neg_neg];split <;> split <;> first|rfl |(exfalso;omega)
theorem D5 {p q:Int} (h:Int.gcd p q≠0):∃k x y:Int,k≠0/\Int.gcd x y=1/\p=k*x/\q=k*y/\low p q=(x,y)/\(0<=y/\(y=0->x=1))/\(x.natAbs<=p.natAbs/\y.natAbs<=q.natAbs):=by
 obtain⟨x,O⟩:((Int.gcd p q:Nat):Int)∣p:=Int.gcd_dvd_left ..;obtain⟨y,U⟩:((Int.gcd p q:Nat):Int)∣q:=Int.gcd_dvd_right ..;obtain⟨g,hg⟩:∃g,Int.gcd p q=g:=⟨_,rfl⟩
 rw[hg]at O U h;have Y:(g:Int)≠0:=by omega
 have J:Int.gcd x y=1:=by
  have h2:Int.gcd p q=g*Int.gcd x y:=by rw[O,U,Int.gcd_mul_left];simp
  rw[hg]at h2;exact Nat.eq_of_mul_eq_mul_left (Nat.pos_of_ne_zero h) (by omega)
 have V:=Ob Y J;rw[<-O,<-U]at V
 have bB:¬(x=0/\y=0):=by
  rintro⟨rfl,rfl⟩;simp at J
 have Z:x.natAbs<=p.natAbs:=by rw[O,Int.natAbs_mul];exact Nat.le_mul_of_pos_left _ (by omega)
 have b2:y.natAbs<=q.natAbs:=by rw[U,Int.natAbs_mul];exact Nat.le_mul_of_pos_left _ (by omega)
 have I:y=0->x.natAbs=1:=λh=>by rw[h]at J;simpa using J
 by_cases hs:y<0∨(y=0/\x<0)
 ·rw[if_pos hs]at V
  refine⟨-g,-x,-y,by omega,by rw[Int.gcd_neg,Int.neg_gcd];exact J,by rw[O];grind,by rw[U];grind,V,⟨by omega,λh=>?_⟩,by omega,by omega⟩;have:=I (by omega);omega
 ·rw[if_neg hs]at V
  refine⟨g,x,y,Y,J,O,U,V,⟨by omega,λh=>?_⟩,Z,b2⟩;have:=I h;omega
theorem Vg {a b c d p q I J O U:Int} (h:Int.gcd (a*p+b*q) (c*p+d*q)≠0) (V:Int.gcd (I*(low (a*p+b*q) (c*p+d*q)).1+J*(low (a*p+b*q) (c*p+d*q)).2) (O*(low (a*p+b*q) (c*p+d*q)).1+U*(low (a*p+b*q) (c*p+d*q)).2)≠0):
  low (I*(low (a*p+b*q) (c*p+d*q)).1+J*(low (a*p+b*q) (c*p+d*q)).2) (O*(low (a*p+b*q) (c*p+d*q)).1+U*(low (a*p+b*q) (c*p+d*q)).2)=low ((I*a+J*c)*p+(I*b+J*d)*q) ((O*a+U*c)*p+(O*b+U*d)*q):=by
 obtain⟨k,x,y,hk,h1,Y,Z,e3,-⟩:=D5 h;rw[e3]at V ⊢;dsimp only at V ⊢;obtain⟨l,u,v,hl,g1,f1,f2,f3,-⟩:=D5 V
 have m1:(I*a+J*c)*p+(I*b+J*d)*q=k*l*u:=by
  have:(I*a+J*c)*p+(I*b+J*d)*q=I*(a*p+b*q)+J*(c*p+d*q):=by grind
  rw[this,Y,Z,Int.mul_assoc,<-f1];grind
 have m2:(O*a+U*c)*p+(O*b+U*d)*q=k*l*v:=by
  have:(O*a+U*c)*p+(O*b+U*d)*q=O*(a*p+b*q)+U*(c*p+d*q):=by grind
  rw[this,Y,Z,Int.mul_assoc,<-f2];grind
 rw[m1,m2,Ob (Int.mul_ne_zero hk hl) g1,f1,f2,Ob hl g1]
def Iz (n:Nat) (u v:Int):Nat:=(u % n).toNat*n+(v % n).toNat
theorem Jq {n:Nat} (hn:0<n) (u v:Int):Iz n u v / n=(u % n).toNat:=by
 have I:(v % n).toNat<n:=by have:=Int.emod_lt_of_pos v (show(0:Int)<n by omega);have:=Int.emod_nonneg v (show(n:Int)≠0 by omega);omega
 unfold Iz;rw[Nat.mul_comm,Nat.mul_add_div hn,Nat.div_eq_of_lt I,Nat.add_zero]
theorem Jr {n:Nat} (hn:0<n) (u v:Int):Iz n u v % n=(v % n).toNat:=by
 have I:(v % n).toNat<n:=by have:=Int.emod_lt_of_pos v (show(0:Int)<n by omega);have:=Int.emod_nonneg v (show(n:Int)≠0 by omega);omega
 unfold Iz;rw[Nat.mul_comm,Nat.mul_add_mod,Nat.mod_eq_of_lt I]
theorem gZ {n:Nat} (hn:0<n) (u v:Int):Iz n u v<n*n:=by
 have I:=Int.emod_lt_of_pos u (show(0:Int)<n by omega);have J:=Int.emod_lt_of_pos v (show(0:Int)<n by omega);have O:=Int.emod_nonneg u (show(n:Int)≠0 by omega);have U:=Int.emod_nonneg v (show(n:Int)≠0 by omega);unfold Iz
 calc (u % n).toNat*n+(v % n).toNat<(u % n).toNat*n+n:=by omega
  _=((u % n).toNat+1)*n:=by rw[Nat.add_mul,Nat.one_mul]
  _<=n*n:=Nat.mul_le_mul_right _ (by omega)
theorem K0 {n s:Nat} {u I:Int} (hn:0<n) (h:I % n=(s*u) % n):(I % n).toNat=s*(u % n).toNat % n:=by
 have J:=Int.emod_nonneg u (show(n:Int)≠0 by omega);have O:=Int.emod_nonneg I (show(n:Int)≠0 by omega)
 have U:((s*(u % n).toNat % n:Nat):Int)=I % n:=by
  push_cast
  rw[Int.toNat_of_nonneg J,h,Int.mul_emod,Int.emod_emod,<-Int.mul_emod]
 omega
theorem U8 {n s:Nat} {u v I J:Int} (hn:0<n) (O:I % n=(s*u) % n) (U:J % n=(s*v) % n):Iz n I J=Az n s (Iz n u v):=by
 unfold Az;rw[Jq hn,Jr hn,<-K0 hn O,<-K0 hn U];rfl
theorem Qh {n:Nat} (hn:0<n) {u v:Int}:E6 n (Iz n u v)=true↔∀g:Nat,(g:Int)∣u->(g:Int)∣v->g∣n->g=1:=by
 have V:=Int.emod_nonneg u (show(n:Int)≠0 by omega);have Y:=Int.emod_nonneg v (show(n:Int)≠0 by omega)
 have I:∀{g:Nat} {x:Int},g∣n->0<=x % n->(g∣(x % n).toNat↔(g:Int)∣x):=λ{g x} hg h=>by
  rw[<-Int.natCast_dvd_natCast,Int.toNat_of_nonneg h];constructor
  ·intro U
   rw[<-Int.emod_add_mul_ediv x n];exact Int.dvd_add U (Int.dvd_trans (Int.natCast_dvd_natCast.2 hg) (Int.dvd_mul_right _ _))
  ·intro U
   rw[Int.emod_def];exact Int.dvd_sub U (Int.dvd_trans (Int.natCast_dvd_natCast.2 hg) (Int.dvd_mul_right _ _))
 unfold E6;rw[Jq hn,Jr hn,beq_iff_eq];constructor
 ·intro h g Z h2 O
  have:g∣Nat.gcd (Nat.gcd (u % n).toNat (v % n).toNat) n:=Nat.dvd_gcd (Nat.dvd_gcd ((I O V).2 Z) ((I O Y).2 h2)) O;rw[h]at this;exact Nat.dvd_one.1 this
 ·intro h
  have J:=Nat.gcd_dvd_right (Nat.gcd (u % n).toNat (v % n).toNat) n;exact h _ ((I J V).1 (Nat.dvd_trans (Nat.gcd_dvd_left _ _) (Nat.gcd_dvd_left _ _))) ((I J Y).1 (Nat.dvd_trans (Nat.gcd_dvd_left _ _) (Nat.gcd_dvd_right _ _))) J
theorem Zp {n k:Nat} (hn:0<n) (Z:k<n*n) (hp:E6 n k=true):∃j s,j<(pts n (n*n)).length/\1<=s/\s<=n/\pun n s=true/\Az n s ((pts n (n*n)).getD j 0)=k:=by
 have I:∀a s,a∈pts n (n*n)->1<=s->s<=n->pun n s=true->Az n s a=k->∃j s,j<(pts n (n*n)).length/\1<=s/\s<=n/\pun n s=true/\Az n s ((pts n (n*n)).getD j 0)=k:=λa s Y J O U V=>by
  obtain⟨j,h,e⟩:=List.getElem_of_mem Y;exact⟨j,s,h,J,O,U,by rw[List.getD_eq_getElem?_getD,List.getElem?_eq_getElem h,e];exact V⟩
 cases hs:C5 n (pts n k) k with
 | true=>
  obtain⟨a,Y,s,J,O,U,V⟩:=I3.1 hs;exact I a s (Lf (Nat.le_of_lt Z) Y) J O U V
 | false=>exact I k 1 (Lf Z (Tv hp hs)) (by omega) hn (by simp[pun]) (Ic Z)
section
variable {n wt:Nat} {D:Int} (x:Nat->Rat)
def cP (n wt:Nat) (x:Nat->Rat) (p:Nat×Int) (P:Nat->Rat):Rat:=sumQ (λi=>P i*(p.2:Rat)*x (i*(pts n (n*n)).length+p.1)) (wt+1)
theorem Nl {p:Nat×Int} (q:Nat->Rat) (f:Nat->Nat->Rat) (m:Nat):cP n wt x p (λj=>sumQ (λi=>q i*f i j) m)=sumQ (λi=>q i*cP n wt x p (f i)) m:=by
 have I:sumQ (λi=>q i*cP n wt x p (f i)) m=sumQ (λi=>sumQ (λj=>q i*f i j*(p.2:Rat)*x (j*(pts n (n*n)).length+p.1)) (wt+1)) m:=Ac (λi _=>by
  unfold cP;rw[<-Am];exact Ac (λj _=>by grind))
 rw[I,Di];unfold cP;refine Ac (λj _=>?_);rw[show sumQ (λi=>q i*f i j) m*(p.2:Rat)*x (j*(pts n (n*n)).length+p.1)=((p.2:Rat)*x (j*(pts n (n*n)).length+p.1))*sumQ (λi=>q i*f i j) m by grind,<-Am];exact Ac (λi _=>by grind)
theorem Nk (j:Nat) (s t:Int) (P:Nat->Rat):cP n wt x (j,s*t) P=(s:Rat)*cP n wt x (j,t) P:=by
 unfold cP;rw[<-Am];exact Ac (λi _=>by push_cast;grind)
theorem M9 (g:Nat->Rat) (m:Nat):∀w,sumQ g (w*m)=sumQ (λi=>sumQ (λj=>g (i*m+j)) m) w
 | 0=>by rw[Nat.zero_mul];rfl
 | w+1=>by
  have h:∀b,sumQ g (w*m+b)=sumQ g (w*m)+sumQ (λj=>g (w*m+j)) b:=by
   intro b;induction b with
   | zero=>rw[Nat.add_zero];show _=_+(0:Rat);grind
   | succ b ih=>rw[<-Nat.add_assoc,sumQ,ih,sumQ];grind
  rw[Nat.succ_mul,h m,sumQ,M9 g m w]
theorem Jv {i j:Nat} {a b c d:Int} {p:Nat×Int} (V:Al n D (((pts n (n*n)).getD j 0 / n:Nat)*a+((pts n (n*n)).getD j 0 % n:Nat)*c) (((pts n (n*n)).getD j 0 / n:Nat)*b+((pts n (n*n)).getD j 0 % n:Nat)*d)=p) (U:p.2≠0->p.1<(pts n (n*n)).length):
  sumQ (λk=>(Mx n wt (pts n (n*n)) (Bk n D (pts n (n*n)) n) i j (a,b,c,d) k:Rat)*x k) ((wt+1)*(pts n (n*n)).length)=cP n wt x p (λl=>(mv i a b c d wt l:Rat)):=by
 have J:∀k,Mx n wt (pts n (n*n)) (Bk n D (pts n (n*n)) n) i j (a,b,c,d) k=if p.2=0 then 0 else if k % (pts n (n*n)).length=p.1/\k / (pts n (n*n)).length<=wt then p.2*mv i a b c d wt (k / (pts n (n*n)).length)else 0:=by
  intro k;unfold Al at V;unfold Mx;simp only[Vk];rw[V]
 rw[M9];unfold cP;refine Ac (λl Z=>?_);by_cases h0:p.2=0
 ·rw[h0]
  rw[A8 (λk _=>by rw[J,if_pos h0];grind)];grind
 ·have hlt:=U h0
  have I:0<(pts n (n*n)).length:=by omega
  rw[Bc hlt]
  ·rw[J,if_neg h0,if_pos]
   ·rw[Nat.mul_comm l,Nat.mul_add_div I,Nat.div_eq_of_lt hlt,Nat.add_zero]
    push_cast
    grind
   ·rw[Nat.mul_comm l,Nat.mul_add_mod,Nat.mod_eq_of_lt hlt,Nat.mul_add_div I,Nat.div_eq_of_lt hlt]
    exact⟨rfl,by omega⟩
  ·intro k Y O
   rw[J,if_neg h0,if_neg]
   ·grind
   ·rw[Nat.mul_comm l,Nat.mul_add_mod,Nat.mod_eq_of_lt Y]
    exact λh=>O h.1
end
theorem Gs {n:Nat} {u v a b c d:Int} (hn:0<n) (U:E6 n (Iz n u v)=true) (O:a*d - b*c=1):E6 n (Iz n (u*a+v*c) (u*b+v*d))=true:=by
 rw[Qh hn]at U ⊢;intro g I J V;refine U g ?_ ?_ V
 ·have e:u=d*(u*a+v*c) - c*(u*b+v*d):=by
   have:d*(u*a+v*c) - c*(u*b+v*d)=u*(a*d - b*c):=by grind
   rw[this,O,Int.mul_one]
  rw[e];exact Int.dvd_sub (Int.dvd_trans I (Int.dvd_mul_left _ _)) (Int.dvd_trans J (Int.dvd_mul_left _ _))
 ·have e:v=a*(u*b+v*d) - b*(u*a+v*c):=by
   have:a*(u*b+v*d) - b*(u*a+v*c)=v*(a*d - b*c):=by grind
   rw[this,O,Int.mul_one]
  rw[e];exact Int.dvd_sub (Int.dvd_trans J (Int.dvd_mul_left _ _)) (Int.dvd_trans I (Int.dvd_mul_left _ _))
theorem Zv {n:Nat} {u v:Int} (hn:0<n) (h:Int.gcd u v=1):E6 n (Iz n u v)=true:=by
 rw[Qh hn];intro g J O _;have I:g∣Int.gcd u v:=Int.dvd_gcd J O;rw[h]at I;exact Nat.dvd_one.1 I
theorem Ia {n:Nat} {D u v:Int} (hn:0<n) (Y:E6 n (Iz n u v)=true):∃j s,j<(pts n (n*n)).length/\1<=s/\s<=n/\pun n s=true/\Az n s ((pts n (n*n)).getD j 0)=Iz n u v/\Al n D u v=(j,Pl.kroP D s):=by
 obtain⟨j,s,J,O,I,U,V⟩:=Zp hn (gZ hn u v) Y;exact⟨j,s,J,O,I,U,V,Gq hn J O I U V n I (nR _)⟩
theorem M6 {n wt s:Nat} {D u v I J:Int} (O:Pl.check n ((wt:Int)+2) D=0) (hp:E6 n (Iz n u v)=true) (h1:1<=s) (h2:s<=n) (V:pun n s=true) (hu:I % n=(s*u) % n) (hv:J % n=(s*v) % n):
  Al n D I J=((Al n D u v).1,Pl.kroP D s*(Al n D u v).2):=by
 obtain⟨⟨a1,a2⟩,_,⟨Y,Z⟩,h,a6⟩:=Pl.check_ok O;have hn:0<n:=by omega
 obtain⟨j,t,b1,b2,b3,U,b5,b6⟩:=Ia (D:=D) hn hp;obtain⟨r,c1,c2,c3,c4⟩:=Ew hn (J0 V U);have e:Az n r ((pts n (n*n)).getD j 0)=Iz n I J:=by rw[U8 hn hu hv,<-b5,Gr hn,Fj c4]
 have hk:=Pl.kro_mul (N:=n) (D:=D) (a:=s) (b:=t) (c:=r) hn Y Z h a6 (by omega) (by omega) (by omega) (by omega) (by omega) (by omega) (by simpa [pun] using V) (by simpa [pun] using U) (by simpa [pun] using c3) c4.symm;have h6:Al n D I J=(j,Pl.kroP D r):=Gq hn b1 c1 c2 c3 e n c2 (nR _);rw[h6,b6,hk.1]
theorem Hg {n wt:Nat} {D u v:Int} (J:Pl.check n ((wt:Int)+2) D=0) (hp:E6 n (Iz n u v)=true):(Al n D u v).2≠0/\(Al n D u v).1<(pts n (n*n)).length:=by
 obtain⟨⟨a1,a2⟩,_,⟨O,U⟩,V,Y⟩:=Pl.check_ok J;have hn:0<n:=by omega
 obtain⟨j,t,Z,b2,b3,I,b5,b6⟩:=Ia (D:=D) hn hp;obtain⟨r,c1,c2,c3,c4⟩:=Ew hn (J0 I I);have hk:=Pl.kro_mul (N:=n) (D:=D) (a:=t) (b:=t) (c:=r) hn O U V Y (by omega) (by omega) (by omega) (by omega) (by omega) (by omega) (by simpa [pun] using I) (by simpa [pun] using I) (by simpa [pun] using c3) c4.symm;rw[b6];exact⟨by rcases hk.2 with h|h <;>(dsimp only;rw[h];decide),Z⟩
def RelZ (n wt:Nat) (D:Int) (x:Nat->Rat):Prop:=∀r,r<2*((wt+1)*(pts n (n*n)).length)->sumQ (λk=>(Lj n wt D r k:Rat)*x k) ((wt+1)*(pts n (n*n)).length)=0
theorem Jy {n wt:Nat} {x:Nat->Rat} {r:Nat} (hr:r<(wt+1)*(pts n (n*n)).length):sumQ (λk=>((if k=r then 1 else 0:Int):Rat)*x k) ((wt+1)*(pts n (n*n)).length)=x r:=by
 rw[Bc hr]
 ·rw[if_pos rfl];push_cast;grind
 ·intro i _ h;rw[if_neg h];push_cast;grind
theorem Oe {n j:Nat} (hn:0<n) (Z:j<(pts n (n*n)).length):Iz n ((pts n (n*n)).getD j 0 / n:Nat) ((pts n (n*n)).getD j 0 % n:Nat)=(pts n (n*n)).getD j 0/\E6 n (Iz n ((pts n (n*n)).getD j 0 / n:Nat) ((pts n (n*n)).getD j 0 % n:Nat))=true:=by
 have J:=Ax Z;have hlt:=Fk J
 have e:Iz n ((pts n (n*n)).getD j 0 / n:Nat) ((pts n (n*n)).getD j 0 % n:Nat)=(pts n (n*n)).getD j 0:=by
  have O:(pts n (n*n)).getD j 0 / n<n:=Nat.div_lt_of_lt_mul hlt;have U:(pts n (n*n)).getD j 0 % n<n:=Nat.mod_lt _ hn;have I:∀z:Nat,z<n->(((z:Nat):Int) % n).toNat=z:=λz h=>by rw[Int.emod_eq_of_lt (by omega) (by omega)];omega
  have V:=I _ O;have Y:=I _ U;unfold Iz;rw[V,Y,Nat.mul_comm,Nat.div_add_mod]
 exact⟨e,by rw[e];exact(I4 J).1⟩
theorem Si {P:Nat->Rat} {wt:Nat} {a b c d:Int}:(λl=>sumQ (λi=>P i*(mv i a b c d wt l:Rat)) (wt+1))=subst P wt a b c d (wt+1):=rfl
theorem eL {n wt:Nat} {D:Int} {x:Nat->Rat} (J:Pl.check n ((wt:Int)+2) D=0) (hR:RelZ n wt D x) {j:Nat} (O:j<(pts n (n*n)).length) (P:Nat->Rat):
  cP n wt x (j,1) P+cP n wt x (Al n D (((pts n (n*n)).getD j 0 / n:Nat)*0+((pts n (n*n)).getD j 0 % n:Nat)*1) (((pts n (n*n)).getD j 0 / n:Nat)*(-1)+((pts n (n*n)).getD j 0 % n:Nat)*0)) (subst P wt 0 (-1) 1 0 (wt+1))=0:=by
 obtain⟨⟨a1,a2⟩,_,⟨a3,a4⟩,a5,a6⟩:=Pl.check_ok J;have hn:0<n:=by omega
 have U:=(Oe hn O).2;have Y:=Hg J (Gs (a:=0) (b:=-1) (c:=1) (d:=0) hn U (by decide))
 have I:∀i,i<wt+1->x (i*(pts n (n*n)).length+j)+cP n wt x (Al n D (((pts n (n*n)).getD j 0 / n:Nat)*0+((pts n (n*n)).getD j 0 % n:Nat)*1) (((pts n (n*n)).getD j 0 / n:Nat)*(-1)+((pts n (n*n)).getD j 0 % n:Nat)*0)) (λl=>(mv i 0 (-1) 1 0 wt l:Rat))=0:=by
  intro i V
  have hlt:i*(pts n (n*n)).length+j<(wt+1)*(pts n (n*n)).length:=by
   have Z:=Nat.mul_le_mul_right (pts n (n*n)).length (show i+1<=wt+1 by omega);rw[Nat.succ_mul]at Z;omega
  have h:=hR (i*(pts n (n*n)).length+j) (by omega);have hs:=Jv (wt:=wt) (D:=D) x (i:=i) (j:=j) (a:=0) (b:=-1) (c:=1) (d:=0) rfl (λ_=>Y.2);rw[<-hs,<-Jy (x:=x) hlt,<-Ap,<-h];refine Ac (λk _=>?_);unfold Lj Li;rw[if_pos hlt,Nat.mul_comm i,Nat.mul_add_div (by omega),Nat.div_eq_of_lt O,Nat.add_zero,Nat.mul_add_mod,Nat.mod_eq_of_lt O];unfold gTurn
  push_cast
  grind
 rw[<-Si,Nl];unfold cP at I ⊢;rw[<-Ap];refine A8 (λi V=>?_);have h:=I i V;dsimp only;generalize sumQ _ (wt+1)=z at h ⊢
 push_cast
 grind
theorem aJ {n wt:Nat} {D:Int} {x:Nat->Rat} (J:Pl.check n ((wt:Int)+2) D=0) (hR:RelZ n wt D x) {j:Nat} (U:j<(pts n (n*n)).length) (P:Nat->Rat):
  cP n wt x (j,1) P+cP n wt x (Al n D (((pts n (n*n)).getD j 0 / n:Nat)*0+((pts n (n*n)).getD j 0 % n:Nat)*1) (((pts n (n*n)).getD j 0 / n:Nat)*(-1)+((pts n (n*n)).getD j 0 % n:Nat)*(-1))) (subst P wt 0 (-1) 1 (-1) (wt+1))
   + cP n wt x (Al n D (((pts n (n*n)).getD j 0 / n:Nat)*(-1)+((pts n (n*n)).getD j 0 % n:Nat)*(-1)) (((pts n (n*n)).getD j 0 / n:Nat)*1+((pts n (n*n)).getD j 0 % n:Nat)*0)) (subst P wt (-1) 1 (-1) 0 (wt+1))=0:=by
 obtain⟨⟨a1,a2⟩,_,⟨a3,a4⟩,a5,a6⟩:=Pl.check_ok J;have hn:0<n:=by omega
 have O:=(Oe hn U).2;have Z:=Hg J (Gs (a:=0) (b:=-1) (c:=1) (d:=-1) hn O (by decide));have g2:=Hg J (Gs (a:=-1) (b:=1) (c:=-1) (d:=0) hn O (by decide))
 have I:∀i,i<wt+1->x (i*(pts n (n*n)).length+j)+cP n wt x (Al n D (((pts n (n*n)).getD j 0 / n:Nat)*0+((pts n (n*n)).getD j 0 % n:Nat)*1) (((pts n (n*n)).getD j 0 / n:Nat)*(-1)+((pts n (n*n)).getD j 0 % n:Nat)*(-1))) (λl=>(mv i 0 (-1) 1 (-1) wt l:Rat))
   + cP n wt x (Al n D (((pts n (n*n)).getD j 0 / n:Nat)*(-1)+((pts n (n*n)).getD j 0 % n:Nat)*(-1)) (((pts n (n*n)).getD j 0 / n:Nat)*1+((pts n (n*n)).getD j 0 % n:Nat)*0)) (λl=>(mv i (-1) 1 (-1) 0 wt l:Rat))=0:=by
  intro i Y
  have hlt:i*(pts n (n*n)).length+j<(wt+1)*(pts n (n*n)).length:=by
   have h7:=Nat.mul_le_mul_right (pts n (n*n)).length (show i+1<=wt+1 by omega);rw[Nat.succ_mul]at h7;omega
  have h:=hR ((wt+1)*(pts n (n*n)).length+(i*(pts n (n*n)).length+j)) (by omega);have hs:=Jv (wt:=wt) (D:=D) x (i:=i) (j:=j) (a:=0) (b:=-1) (c:=1) (d:=-1) rfl (λ_=>Z.2);have V:=Jv (wt:=wt) (D:=D) x (i:=i) (j:=j) (a:=-1) (b:=1) (c:=-1) (d:=0) rfl (λ_=>g2.2);rw[<-hs,<-V,<-Jy (x:=x) hlt,<-Ap,<-Ap,<-h];refine Ac (λk _=>?_);unfold Lj Li;rw[if_neg (show ¬((wt+1)*(pts n (n*n)).length+(i*(pts n (n*n)).length+j)<(wt+1)*(pts n (n*n)).length)by omega),Nat.add_sub_cancel_left,Nat.mul_comm i,Nat.mul_add_div (by omega),Nat.div_eq_of_lt U,Nat.add_zero,Nat.mul_add_mod,Nat.mod_eq_of_lt U];unfold gThird gTwice
  push_cast
  grind
 rw[<-Si,<-Si,Nl,Nl];unfold cP at I ⊢;rw[<-Ap,<-Ap];refine A8 (λi Y=>?_);have h:=I i Y;dsimp only;generalize sumQ _ (wt+1)=z at h ⊢;generalize sumQ _ (wt+1)=z2 at h ⊢
 push_cast
 grind
theorem M5 {n wt:Nat} {D u v:Int} (J:Pl.check n ((wt:Int)+2) D=0) (hp:E6 n (Iz n u v)=true):∃(j:Nat) (e:Int),j<(pts n (n*n)).length/\Al n D u v=(j,e*1)/\∀a b c d:Int,a*d - b*c=1 ->
  Al n D (u*a+v*c) (u*b+v*d)=((Al n D (((pts n (n*n)).getD j 0 / n:Nat)*a+((pts n (n*n)).getD j 0 % n:Nat)*c) (((pts n (n*n)).getD j 0 / n:Nat)*b+((pts n (n*n)).getD j 0 % n:Nat)*d)).1,e*(Al n D (((pts n (n*n)).getD j 0 / n:Nat)*a+((pts n (n*n)).getD j 0 % n:Nat)*c) (((pts n (n*n)).getD j 0 / n:Nat)*b+((pts n (n*n)).getD j 0 % n:Nat)*d)).2):=by
 obtain⟨⟨a1,a2⟩,_,⟨a3,a4⟩,a5,a6⟩:=Pl.check_ok J;have hn:0<n:=by omega
 obtain⟨j,s,V,Z,b3,b4,Y,b6⟩:=Ia (D:=D) hn hp;have U:=Oe hn V
 have hu:u % n=(s*((pts n (n*n)).getD j 0 / n:Nat)) % n:=by
  have h:Az n s ((pts n (n*n)).getD j 0) / n=Iz n u v / n:=by rw[Y]
  rw[Dn hn,Jq hn]at h;have h3:=Int.emod_nonneg u (show(n:Int)≠0 by omega);have O:((s*((pts n (n*n)).getD j 0 / n) % n:Nat):Int)=u % n:=by omega
  rw[<-O];push_cast;rfl
 have hv:v % n=(s*((pts n (n*n)).getD j 0 % n:Nat)) % n:=by
  have h:Az n s ((pts n (n*n)).getD j 0) % n=Iz n u v % n:=by rw[Y]
  rw[Dp,Jr hn]at h;have h3:=Int.emod_nonneg v (show(n:Int)≠0 by omega);have O:((s*((pts n (n*n)).getD j 0 % n) % n:Nat):Int)=v % n:=by omega
  rw[<-O];push_cast;rfl
 have I:∀a c:Int,(u*a+v*c) % n=(s*(((pts n (n*n)).getD j 0 / n:Nat)*a+((pts n (n*n)).getD j 0 % n:Nat)*c)) % n:=λa c=>by
  rw[Int.mul_add,<-Int.mul_assoc,<-Int.mul_assoc,Int.add_emod,Int.mul_emod u,Int.mul_emod v,hu,hv,<-Int.mul_emod,<-Int.mul_emod,<-Int.add_emod]
 refine⟨j,Pl.kroP D s,V,by rw[Int.mul_one];exact b6,λa b c d hd=>?_⟩;exact M6 J (Gs hn U.2 hd) Z b3 b4 (I a c) (I b d)
theorem Hn {n wt:Nat} {x:Nat->Rat} {e:Int} (p:Nat×Int) (P:Nat->Rat):cP n wt x (p.1,e*p.2) P=(e:Rat)*cP n wt x p P:=Nk x p.1 e p.2 P
theorem Z1 {n wt:Nat} {D:Int} {x:Nat->Rat} (I:Pl.check n ((wt:Int)+2) D=0) (V:RelZ n wt D x) {u v:Int} (Z:E6 n (Iz n u v)=true) (P:Nat->Rat):
  cP n wt x (Al n D u v) P+cP n wt x (Al n D v (-u)) (subst P wt 0 (-1) 1 0 (wt+1))=0:=by
 obtain⟨j,e,Y,O,U⟩:=M5 I Z;have J:=U 0 (-1) 1 0 (by decide);rw[show u*0+v*1=v by omega,show u*(-1)+v*0=-u by omega]at J;rw[O,J,Hn,Nk,<-Rat.mul_add,eL I V Y P,Rat.mul_zero]
theorem Vt {n wt:Nat} {D:Int} {x:Nat->Rat} (I:Pl.check n ((wt:Int)+2) D=0) (Y:RelZ n wt D x) {u v:Int} (h:E6 n (Iz n u v)=true) (P:Nat->Rat):
  cP n wt x (Al n D u v) P+cP n wt x (Al n D v (-u - v)) (subst P wt 0 (-1) 1 (-1) (wt+1))+cP n wt x (Al n D (-u - v) u) (subst P wt (-1) 1 (-1) 0 (wt+1))=0:=by
 obtain⟨j,e,Z,V,J⟩:=M5 I h;have O:=J 0 (-1) 1 (-1) (by decide);have U:=J (-1) 1 (-1) 0 (by decide);rw[show u*0+v*1=v by omega,show u*(-1)+v*(-1)=-u - v by omega]at O;rw[show u*(-1)+v*(-1)=-u - v by omega,show u*1+v*0=u by omega]at U;rw[V,O,U,Hn,Hn,Nk,<-Rat.mul_add,<-Rat.mul_add,aJ I Y Z P,Rat.mul_zero]
theorem Ys (D:Int):Pl.kroP D 1=1:=by
 have h:Lib.ctz 64 1=0:=by decide
 unfold Pl.kroP;rw[h];simp;rfl
theorem dN {n:Nat} {D:Int} {j:Nat} (hn:0<n) (I:j<(pts n (n*n)).length):Bk n D (pts n (n*n)) n ((pts n (n*n)).getD j 0)=(j,1):=by
 rw[Gq (s:=1) hn I (nR 1) hn (by simp[pun]) (Ic (Fk (Ax I))) n hn (nR n),Ys]
end Go.Proofs.YtenlbhlllgppmaaGreatDoor
