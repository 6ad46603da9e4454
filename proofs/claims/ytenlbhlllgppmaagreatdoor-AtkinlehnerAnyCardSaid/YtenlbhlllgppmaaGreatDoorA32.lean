/- matrix.combine for long fractions, times, Apply. -/
import Derived.Test.YtenlbhlllgppmaaGreatDoorA31
set_option linter.unusedSimpArgs false
set_option maxRecDepth 100000
set_option maxHeartbeats 8000000
namespace Go.Proofs.YtenlbhlllgppmaaGreatDoor
section
open Go.RowKit Eli Tryz
theorem Z4 (s:Bool) (p:Option Addr) (n c:Nat) (t:Bool) (q:Option Addr) (m d:Nat) (x:Rat) (Y:Bool) (p':Option Addr) (U J:Nat) (Z:Bool) (V:Option Addr) (O M:Nat) (y:Rat) (w:World) (h:Qs w s p n c t q m d x) (I:Qs w Y p' U J Z V O M y) (hx:hq x<=1000000000000) (hy:hq y<=1000000000000):
  Calls prog 39 #[.agg #[.bool s,.slice p n c,.bool t,.slice q m d],.agg #[.bool Y,.slice p' U J,.bool Z,.slice V O M]] w λe w'=>Gr w' e (x+y)/\Below w.heap.size w w':=by
 have h1:=V5 s p n c x.num t q m d x.den Y p' U J y.num Z V O M y.den w h.1.raw h.2.raw I.1.raw I.2.raw (by have:=h.sizes;omega) (by have:=h.sizes;omega) (by have:=I.sizes;omega) (by have:=I.sizes;omega) (Fc x) (Fc y);rw[B7,B7]at h1;exact h1
theorem Qi (g N cx gy oy cy fr:Nat) (F Y:Nat->Rat) (s:Bool) (p:Option Addr) (n c:Nat) (t:Bool) (q:Option Addr) (m d:Nat) (x:Rat) (w:World) (h1:QRow (λj=>IsQ (F j)) w g N N)
  (gX:gy≠g) (gS:gy<w.heap.size) (hD:∀j,j<N->QE (IsQ (Y j)) w gy (oy+j*4))
  (hx:Qs w s p n c t q m d x) (hK:hq x<=1000000000) (hF:∀j,j<N->hq (F j)<=100000000000/\hq (Y j)<=1000000000) (hN:N<=1000000) (mV:fr<=N) (hY:∀j,j<fr->Y j=0):
  Calls prog 122 #[.slice (some ⟨g,0,none⟩) N cx,.slice (some ⟨gy,oy,none⟩) N cy,.agg #[.bool s,.slice p n c,.bool t,.slice q m d],.int .i64 fr] w λe w'=>(∃v,e=.returned v)/\QRow (λj=>IsQ (F j+x*Y j)) w' g N N/\w.grownBy w' (some g)/\I32 w w':=by
 have mN:=Kh hD;have cF:=Kh gX;have HX:=Kh hx;have HF:=Kh hF;have H1:=Kh h1;have HK:=Kh hK;have hZ:=Kh h1.sts.1;have nN:=Kh gS;have mM:=Kh hY;clear h1 hx hF hK hD gX gS hY;go_enter func122,ntmps122
 go_wp2_with fail
 obtain⟨w0,gY,X0,bB⟩:=bx1 w #[.bool s,.slice p n c,.bool t,.slice q m d] 86;rw[gY];have bH:=Kh bB;have h:=Kh X0
 have cV:=Kh (show QRow (addQ F Y x fr) w0 g N N from QRow.congr (QRow.keep (λ_=>IsQ.solid _) H1.1 bB) (λj _=>by
  unfold addQ;by_cases hj:j<fr
  ·rw[if_pos hj,mM.1 j hj];congr 1;grind
  ·rw[if_neg hj]))
 have mC:=Kh (HX.1.keep bB);obtain⟨gc,cA⟩:∃gc,w.heap.size=gc:=⟨_,rfl⟩
 have aD:=Kh (show gc≠g by have:=hZ.1;omega);rw[cA]at h ⊢;have nE:=Kh cA;clear X0 bB gY H1 HX cA;go_wp2;go_loopw [8] (λi wr=>∃k:Nat,k<=N/\i=.int .i64 k/\QRow (addQ F Y x k) wr g N N/\w0.grownBy wr (some g)/\I32 w0 wr) (λi _=>N - (intOf i).toNat)
 case atStart=>exact⟨fr,mV,rfl,cV.1,Af g (Below.refl _ _),I32.refl _⟩
 case round=>
  obtain⟨k,hk,rfl,bE,gP,gF⟩:=hrel;have aN:=Kh bE;have O:=Kh gP;have V:=Kh gF;clear bE gP gF cV;by_cases hlt:k<N
  ·obtain⟨s',p',i1,c',t',q',m',d',a0,a1,a2,a3,hx⟩:=(((mN.1 k hlt).keep (IsQ.solid _) bH.1).butR V.1 O.1 cF.1)
   have HP:=Kh (show Qs wr s' p' i1 c' t' q' m' d' (Y k)from hx);have cT:=Kh (mC.1.i32 V.1);have x0:=O.1.cell (h.1.at_ 0 rfl) (λe=>by injection e with e;exact aD.1 e);have x1:=O.1.cell (h.1.at_ 1 rfl) (λe=>by injection e with e;exact aD.1 e);have x2:=O.1.cell (h.1.at_ 2 rfl) (λe=>by injection e with e;exact aD.1 e);have x3:=O.1.cell (h.1.at_ 3 rfl) (λe=>by injection e with e;exact aD.1 e);have nT:(k:Int)<(N:Int):=by omega
   have cY:=Kh (show Cells4 wr gc 0 s p n c t q m d from⟨x0,x1,x2,x3⟩);have cD:=Kh (show Cells4 wr gy (oy+k*4) s' p' i1 c' t' q' m' d' from⟨a0,a1,a2,a3⟩);clear hx x0 x1 x2 x3;go_wp2_with fail
   refine(Lt s' p' i1 c' t' q' m' d' (Y k) wr HP.1 (by have:=(HF.1 k hlt).2;omega)).mono ?_;rintro e we ⟨rfl,M⟩;have nM:=Kh M;have I:=Kh (QRow.keep (λj=>(IsQ.solid _:Bh (addQ F Y x k j))) aN.1 M);have aK:=Kh (O.1.trans (Af g M));have Z:=Kh (V.1.trans (I32.below M));have mB:=Kh (HP.1.keep M);have mD:=Kh (cT.1.keep M);have mL:=Kh (cY.1.keep M);have hV:=Kh (cD.1.keep M);clear M a0 a1 a2 a3 aN O V HP cT cY cD;by_cases hz:Y k=0
   ·have h0:(!decide (Y k=0))=false:=by rw[decide_eq_true hz];rfl
    rw[h0];have mW:=Kh (show F k+x*Y k=F k by rw[hz];grind);clear hz h0;go_wp2;go_roundw
    case rel=>exact⟨k+1,by omega,by go_num,addQ.done I.1 mW.1,aK.1,Z.1⟩
    case measure=>simp[intOf];omega
   ·have h0:(!decide (Y k=0))=true:=by rw[decide_eq_false hz];rfl
    rw[h0];obtain⟨x0,x1,x2,x3⟩:=mL.1;obtain⟨a0,a1,a2,a3⟩:=hV.1;obtain⟨s5,p5,n5,c5,t5,q5,m5,d5,e0,e1,e2,e3,hy⟩:=addQ.elem I.1 hlt;have hW:=Kh (show Qs we s5 p5 n5 c5 t5 q5 m5 d5 (F k)from hy)
    have mE:=Kh (show hq (x*Y k)<=2000000000 by
     have h1:=Cc x (Y k);have h2:=HK.1;have h3:=(HF.1 k hlt).2;omega)
    have iL:=Kh (λw1 (J:Below we.heap.size we w1)=>Cy s p n c t q m d x s' p' i1 c' t' q' m' d' (Y k) w1 (mD.1.keep J) (mB.1.keep J) (by have:=HK.1;omega) (by have:=(HF.1 k hlt).2;omega));have U:=I.1;have nU:=cF.1;have nV:=aD.1;have nW:g<we.heap.size:=U.sts.1;clear hy h0 hz;go_upto_region 5 with(fail)
    refine K6 (λW=>W.cell? ⟨gc,0,none⟩=some (.bool s)/\W.cell? ⟨gc,1,none⟩=some (.slice p n c)/\W.cell? ⟨gc,2,none⟩=some (.bool t)/\W.cell? ⟨gc,3,none⟩=some (.slice q m d)/\W.cell? ⟨gy,oy+k*4,none⟩=some (.bool s')/\W.cell? ⟨gy,oy+k*4+1,none⟩=some (.slice p' i1 c')/\W.cell? ⟨gy,oy+k*4+2,none⟩=some (.bool t')/\W.cell? ⟨gy,oy+k*4+3,none⟩=some (.slice q' m' d')/\W.cell? ⟨g,k*4,none⟩=some (.bool s5)/\W.frozen? ⟨g,k*4,none⟩=false/\W.cell? ⟨g,k*4+1,none⟩=some (.slice p5 n5 c5)/\W.frozen? ⟨g,k*4+1,none⟩=false/\W.cell? ⟨g,k*4+2,none⟩=some (.bool t5)/\W.frozen? ⟨g,k*4+2,none⟩=false/\W.cell? ⟨g,k*4+3,none⟩=some (.slice q5 m5 d5)/\W.frozen? ⟨g,k*4+3,none⟩=false) (λW J=>⟨Au J x0,Au J x1,Au J x2,Au J x3,Au J a0,Au J a1,Au J a2,Au J a3,Au J e0,Ac J (by rw[e0];rfl) (U.free _ (by omega)),Au J e1,Ac J (by rw[e1];rfl) (U.free _ (by omega)),Au J e2,Ac J (by rw[e2];rfl) (U.free _ (by omega)),Au J e3,Ac J (by rw[e3];rfl) (U.free _ (by omega))⟩) (λcX hHeld0=>?_);clear x0 x1 x2 x3 a0 a1 a2 a3 e0 e1 e2 e3 U;refine Al 0 ?_;refine Al 1 ?_;refine Al 2 ?_;refine Al 3 ?_;refine Al 4 ?_;refine Al 5 ?_;refine Al 6 ?_;refine Al 7 ?_;refine Al 8 ?_;refine Al 9 ?_;refine Al 10 ?_;refine F9 11 rfl (λK hK=>?_);focus(go_simp;refine(iL.1 _ (Below.refl _ we).drew).mono ?_;rintro e w2 ⟨⟨s3,p3,n3,c3,t3,q3,m3,d3,rfl,hE⟩,gL⟩;have bY:=Kh ((Below.refl _ we).drew.trans gL:Below we.heap.size we w2);have mO:=Kh hE;clear hE gL;(first|with_reducible refine hK.out _ _ ?_ (λhHeld1=>?_) |(go_wp2_with fail;with_reducible refine hK.out _ _ ?_ (λhHeld1=>?_))))
    focus((try dsimp only);exact cX.1 _ bY.1)
    focus(clear hK K;(try simp only[Act.put,Br,Bt,Bs]))
    refine F9 12 rfl (λK hK=>?_);focus(go_simp;refine(Z4 s5 p5 n5 c5 t5 q5 m5 d5 (F k) s3 p3 n3 c3 t3 q3 m3 d3 (x*Y k) _ (hW.1.keep bY.1) mO.1 (by have:=(HF.1 k hlt).1;omega) (by have:=mE.1;omega)).mono ?_;rintro e w4 ⟨⟨s6,p6,n6,c6,t6,q6,m6,d6,rfl,hG⟩,gN⟩;have aX:=bt bY gN;have cB:=QRow.keep (λj=>(IsQ.solid _:Bh (addQ F Y x k j))) I.1 aX.1;have cG:=Kh (addQ.put cB hlt hG);have hX:=Kh (show ∀v0 v1 v2 v3,w0.grownBy ((((w4.setCell ⟨g,k*4,none⟩ v0).setCell ⟨g,k*4+1,none⟩ v1).setCell ⟨g,k*4+2,none⟩ v2).setCell ⟨g,k*4+3,none⟩ v3) (some g)from λ_ _ _ _=>Fm aK.1 aX.1);have H4:=Kh ((Z.1.trans (I32.below aX.1)).trans (I32.put4 cB.sts (k*4) (k*4+1) (k*4+2) (k*4+3) (.bool s6) (.slice p6 n6 c6) (.bool t6) (.slice q6 m6 d6) (NotInt.bool _) (NotInt.slice _ _ _) (NotInt.bool _)));clear hG gN cB;(first|with_reducible refine hK.out _ _ ?_ (λhHeld2=>?_) |(go_wp2_with fail;with_reducible refine hK.out _ _ ?_ (λhHeld2=>?_))))
    focus((try dsimp only);exact cX.1 _ aX.1)
    focus(clear hK K;(try simp only[Act.put,Br,Bt,Bs]))
    refine Al 13 ?_;refine K5 14 rfl (λK hK=>?_);go_simp
    refine hK.out _ _ ?_;clear hK K
    (try simp only[Act.put,Br,Bt,Bs])
    all_goals clear I aK Z
    all_goals go_wp2
    all_goals go_roundw
    all_goals first
     | exact⟨k+1,by omega,by go_num,cG.1,hX.1 _ _ _ _,H4.1⟩
     |(simp[intOf];omega)
  ·obtain rfl:k=N:=by omega
   go_wp2;go_end0;exact⟨⟨_,rfl⟩,QRow.congr aN.1 (λj hj=>by unfold addQ;rw[if_pos hj]),(Af g bH.1).trans O.1,(I32.below bH.1).trans V.1⟩
def Dt (V:Nat->Rat) (T:Nat->Nat->Rat) (k q:Nat):Rat:=sumQ (λi=>V i*T i q) k
theorem Ot (R C G:Nat) (gs:Nat->Nat) (B0:Nat) (V:Nat->Rat) (T:Nat->Nat->Rat) (v:Value) (w:World) (hG:GM T R C w G gs B0) (hv:QL (λj=>IsQ (V j)) w v R) (hR:R<=72) (hC:C<=1000) (hV:∀j,j<R->hq (V j)<=430000000) (hT:∀i q,i<R->q<C->hq (T i q)<=430000000):
  Calls prog 70 #[v,.slice (some ⟨G,0,none⟩) R R,.int .i64 C] w λe w'=>(∃g,e=.returned (.slice (some ⟨g,0,none⟩) C C)/\w.heap.size<=g/\QRow (λq=>IsQ (Dt V T R q)) w' g C C)/\Below w.heap.size w w':=by
 obtain⟨pv,cv,rfl,gU⟩:∃p c,v=.slice p R c/\(0<R->∃J M,p=some ⟨J,M,none⟩/\J<w.heap.size/\∀j,j<R->QE (IsQ (V j)) w J (M+j*4)):=by
  rcases hv with⟨h,a,c,e⟩ |⟨g,o,cap,e,h1,h2⟩
  ·exact⟨a,c,by rw[h];exact e,λh2=>by omega⟩
  ·exact⟨_,cap,e,λ_=>⟨g,o,rfl,h1,h2⟩⟩
 have hO:=Kh (show ∀k q,k<=R->q<C->hq (Dt V T k q)<=100000000000 from λk q hk hq=>by
  have h1:=Dm (λi=>V i*T i q) 860000000 k (λi hi=>by
   have h2:=Cc (V i) (T i q);have h3:=hV i (by omega);have h4:=hT i q (by omega) hq;omega)
  have h5:k*(860000000+1)<=72*(860000000+1):=Nat.mul_le_mul_right _ (by omega);unfold Dt;omega)
 have dX:=Kh gU;have HV:=Kh hV;have HT:=Kh hT;have aD:=Kh hG;clear hv gU hV hT hG;go_enter func70,ntmps70
 go_wp2_with fail
 refine(Vz C w hC).mono ?_;rintro e w1 ⟨⟨g,rfl,U,I⟩,aN⟩;have dC:=Kh (show QRow (λq=>IsQ (Dt V T 0 q)) w1 g C C from I);have cV:=Kh (aD.1.keep aN)
 have dY:=Kh (λ(h:0<R)=>(show ∃J M,pv=some ⟨J,M,none⟩/\J<g/\∀j,j<R->QE (IsQ (V j)) w1 J (M+j*4)from by
  obtain⟨J,M,e,h1,h2⟩:=dX.1 h;exact⟨J,M,e,mI h1 U,λj hj=>(h2 j hj).keep (IsQ.solid _) aN⟩))
 have bE:=Kh (show G<g/\∀i,i<R->gs i<g from⟨mI aD.1.stk.1 U,λi hi=>mI (aD.1.row i hi).sts.1 U⟩);have cT:=Kh aN;have cX:=Kh U;clear aN U I aD dX;go_wp2_with fail
 go_loopw [13] (λii wr=>∃k:Nat,k<=R/\ii=.int .i64 k/\QRow (λq=>IsQ (Dt V T k q)) wr g C C/\w1.grownBy wr (some g)/\I32 w1 wr) (λii _=>R - (intOf ii).toNat)
 case atStart=>exact⟨0,Nat.zero_le _,rfl,dC.1,Af g (Below.refl _ _),I32.refl _⟩
 case round=>
  obtain⟨k,hk,rfl,I,gL,gA⟩:=hrel;obtain⟨we,rfl⟩:∃we:World,we=wr:=⟨_,rfl⟩
  have bG:=Kh I;have aK:=Kh gL;have bB:=Kh gA;clear I gL gA dC;by_cases hlt:k<R
  ·have mQ:(k:Int)<(R:Int):=by omega
   obtain⟨J,M,hX,mP,gP⟩:=dY.1 (by omega);subst hX;have gN:=(gP k hlt).butR bB.1 aK.1 (by omega);have cY:=Kh gN;obtain⟨s0,p0,n0,c0,t0,q0,m0,d0,a0,a1,a2,a3,hx⟩:=gN;have HX:=Kh (show Qs we s0 p0 n0 c0 t0 q0 m0 d0 (V k)from hx);clear gP hx;go_wp2_with fail
   refine(Lt s0 p0 n0 c0 t0 q0 m0 d0 (V k) we HX.1 (by have:=HV.1 k hlt;omega)).mono ?_;rintro e wk ⟨rfl,O⟩;have dE:=Kh (QRow.keep (λ_=>IsQ.solid _) bG.1 O);have Z:=Kh (aK.1.trans (Af g O));have bC:=Kh (bB.1.trans (I32.below O));have hL:=Kh (cY.1.keep (IsQ.solid _) O);clear O a0 a1 a2 a3 HX cY bG aK bB;by_cases hz:V k=0
   ·have h0:(!decide (V k=0))=false:=by rw[decide_eq_true hz];rfl
    rw[h0];have hN:=Kh (show QRow (λq=>IsQ (Dt V T (k+1) q)) wk g C C from dE.1.congr (λq _=>by unfold Dt;rw[sumQ,hz];congr 1;grind));clear hz h0;go_wp2;go_roundw
    case rel=>exact⟨k+1,by omega,by go_num,hN.1,Z.1,bC.1⟩
    case measure=>simp[intOf];omega
   ·have h0:(!decide (V k=0))=true:=by rw[decide_eq_false hz];rfl
    rw[h0];have bH:=(cV.1.row k hlt).i32 (λ_=>IsQ.solid _) bC.1 Z.1 (by have:=bE.1.2 k hlt;omega);have mO:gs k<g:=bE.1.2 k hlt;have mN:G<g:=bE.1.1;have l0:=Z.1.cell (cV.1.at_ k hlt) (λe=>by injection e with e;have e2:G=g:=e;omega);obtain⟨s0,p0,n0,c0,t0,q0,m0,d0,a0,a1,a2,a3,hx⟩:=hL.1;have HX:=Kh (show Qs wk s0 p0 n0 c0 t0 q0 m0 d0 (V k)from hx);have hI:=Kh (λW (Y:Below wk.heap.size wk W)=>Qi g C C (gs k) 0 C 0 (λq=>Dt V T k q) (T k) s0 p0 n0 c0 t0 q0 m0 d0 (V k) W (dE.1.keep (λ_=>IsQ.solid _) Y) (by omega) (mI bH.sts.1 Y.size) (λj hj=>by rw[Nat.zero_add];exact(bH.val j hj).keep (IsQ.solid _) Y) (HX.1.keep Y) (by have:=HV.1 k hlt;omega) (λj hj=>⟨hO.1 k j hk hj,by have:=HT.1 k j hlt hj;omega⟩) (by omega) (Nat.zero_le _) (λj hj=>absurd hj (Nat.not_lt_zero _)));clear hx bH hz h0;go_upto_region 6 with(fail)
    refine K6 (λW=>W.cell? ⟨G,k,none⟩=some (.slice (some ⟨gs k,0,none⟩) C C)/\W.cell? ⟨J,M+k*4,none⟩=some (.bool s0)/\W.cell? ⟨J,M+k*4+1,none⟩=some (.slice p0 n0 c0)/\W.cell? ⟨J,M+k*4+2,none⟩=some (.bool t0)/\W.cell? ⟨J,M+k*4+3,none⟩=some (.slice q0 m0 d0)) (λW Y=>⟨Au Y l0,Au Y a0,Au Y a1,Au Y a2,Au Y a3⟩) (λmE hHeld0=>?_);refine Al 0 ?_;refine Al 1 ?_;refine Al 2 ?_;refine Al 3 ?_;refine Al 4 ?_;refine Al 5 ?_;refine Al 6 ?_;refine Al 7 ?_;refine Al 8 ?_;refine K5 9 rfl (λK hK=>?_);focus(go_simp;refine(hI.1 _ (Below.refl _ wk).drew).mono ?_;rintro e w8 ⟨⟨v8,rfl⟩,gS,gF,aX⟩;have hM:=Kh gS;have hJ:=Kh ((Af g (Below.refl _ wk).drew).trans gF);have cG:=Kh ((I32.below (Below.refl _ wk).drew).trans aX);clear gS gF aX;(first|with_reducible refine hK.out _ _ ?_ |(go_wp2_with fail;with_reducible refine hK.out _ _ ?_)))
    clear hK K
    (try simp only[Act.put,Br,Bt,Bs])
    go_wp2;go_roundw
    case rel=>exact⟨k+1,by omega,by go_num,hM.1,Z.1.trans hJ.1,bC.1.trans cG.1⟩
    case measure=>simp[intOf];omega
  ·obtain rfl:k=R:=by omega
   go_wp2;go_ret;exact⟨⟨g,rfl,cX.1,bG.1⟩,An cT.1 aK.1 cT.1.size cX.1⟩
theorem Od (R C:Nat) (Y:Option Addr) (O:Nat) (V:Nat->Rat) (T:Nat->Nat->Rat) (v:Value) (w:World) (hA:QL (λj=>IsQ (T (j / C) (j % C))) w (.slice Y (R*C) O) (R*C)) (hv:QL (λj=>IsQ (V j)) w v R) (hR:R<=72) (hC:C<=1000) (hV:∀j,j<R->hq (V j)<=430000000) (hT:∀i q,i<R->q<C->hq (T i q)<=430000000):
  Calls prog 26 #[v,.agg #[.int .i64 R,.int .i64 C,.slice Y (R*C) O]] w λe w'=>(∃g,e=.returned (.tuple #[.slice (some ⟨g,0,none⟩) C C,.int .i64 0])/\w.heap.size<=g/\QRow (λq=>IsQ (Dt V T R q)) w' g C C)/\Below w.heap.size w w':=by
 obtain⟨pv,cv,rfl⟩:∃p c,v=.slice p R c:=by
  rcases hv with⟨h,a,c,e⟩ |⟨g,o,cap,e,_⟩
  ·exact⟨a,c,by rw[h];exact e⟩
  ·exact⟨_,cap,e⟩
 obtain⟨RC,I⟩:∃x,R*C=x:=⟨_,rfl⟩
 rw[I]at hA ⊢;have bG:=Kh (λW=>Mw R C RC Y O W (by omega) (by omega) I)
 have dC:=Kh (λW (hb:Below w.heap.size w W)=>(by
  have hX:∀i q,q<C->T i q=(λj=>T (j / C) (j % C)) (i*C+q):=λi q hq=>by
   dsimp only;rw[show(i*C+q) / C=i by rw[Nat.mul_comm,Nat.mul_add_div (by omega),Nat.div_eq_of_lt hq,Nat.add_zero],show(i*C+q) % C=q by rw[Nat.mul_comm,Nat.mul_add_mod,Nat.mod_eq_of_lt hq]]
  rcases hA with⟨h,_⟩ |⟨gA,oA,cap,e,hg,hq⟩
  ·exact Gx R C RC 0 0 O Y (λj=>T (j / C) (j % C)) T W (λh2=>by omega) (λj hj=>by omega) I (by omega) (by omega) (λj hj=>by omega) hX
  ·injection e with e1 e2 e3
   exact Gx R C RC gA oA O Y (λj=>T (j / C) (j % C)) T W (λ_=>⟨e1,mI hg hb.size⟩) (λj hj=>(hq j hj).keep (IsQ.solid _) hb) I (by omega) (by omega) (λj hj=>by
    have gF:0<C:=by
     rcases Nat.eq_zero_or_pos C with h|h
     ·rw[h,Nat.mul_zero]at I;omega
     ·exact h
    exact mH (hT (j / C) (j % C) (Nat.div_lt_of_lt_mul (by rw[Nat.mul_comm,I];exact hj)) (Nat.mod_lt _ gF)) (by decide)) hX:Calls prog 71 #[.agg #[.int .i64 R,.int .i64 C,.slice Y RC O]] W λe w'=>(∃G gs,e=.returned (.slice (some ⟨G,0,none⟩) R R)/\GM T R C w' G gs W.heap.size)/\Below W.heap.size W w'))
 have dY:=Kh hV;have dE:=Kh hT;have HV:=Kh hv;clear hA hV hT hv I;go_enter func26,ntmps26
 go_wp2_with fail
 obtain⟨w0,cT,X0,bY⟩:=bx1 w #[.int .i64 R,.int .i64 C,.slice Y RC O] 32;rw[cT];obtain⟨gb,aD⟩:∃x,w.heap.size=x:=⟨_,rfl⟩
 rw[aD]at X0;try rw[aD]
 have bH:=Kh X0;have bA:=Kh bY;clear cT X0 bY aD;refine(bG.1 w0).mono ?_;rintro e w2 ⟨rfl,Z⟩;have X2:=bk bH Z;have J:=bt bA Z;have m0:=X2.at_ 0 rfl;have m1:=X2.at_ 1 rfl;have m2:=X2.at_ 2 rfl;have hE:((R:Int) !=(R:Int))=false:=by simp
 have dX:=Kh (HV.1.keep (λ_=>IsQ.solid _) J.1);clear Z X2 bH bA bG HV;go_upto_region 3 with(fail)
 refine K6 (λW=>W.cell? ⟨gb,0,none⟩=some (.int .i64 R)/\W.cell? ⟨gb,1,none⟩=some (.int .i64 C)/\W.cell? ⟨gb,2,none⟩=some (.slice Y RC O)) (λW hb=>⟨Au hb m0,Au hb m1,Au hb m2⟩) (λbE hHeld0=>?_);refine Al 0 ?_;refine Al 1 ?_;refine Al 3 ?_;refine Al 4 ?_;refine F9 2 rfl (λK hK=>?_);focus(go_simp;refine(dC.1 _ (J.1.trans ((Below.refl _ w2).drew.mono J.1.size))).mono ?_;rintro e w3 ⟨⟨G,gs,rfl,cF⟩,cB⟩;have M:=Kh ((Below.refl _ w2).drew.trans cB:Below w2.heap.size w2 w3);have cY:=Kh cF;clear cF cB;(first|with_reducible refine hK.out _ _ ?_ (λhHeld1=>?_) |(go_wp2_with fail;with_reducible refine hK.out _ _ ?_ (λhHeld1=>?_))))
 focus((try dsimp only);exact bE.1 _ M.1)
 focus(clear hK K;(try simp only[Act.put,Br,Bt,Bs]))
 refine F9 5 rfl (λK hK=>?_);focus(go_simp;refine(Ot R C G gs _ V T (.slice pv R cv) w3 cY.1 (dX.1.keep (λ_=>IsQ.solid _) M.1) hR hC dY.1 dE.1).mono ?_;rintro e w4 ⟨⟨g,rfl,cD,U⟩,cC⟩;have bB:=Kh (M.1.trans (cC.mono M.1.size):Below w2.heap.size w2 w4);have bC:=Kh U;have cX:=Kh (mH M.1.size cD);clear cC U cD;(first|with_reducible refine hK.out _ _ ?_ (λhHeld2=>?_) |(go_wp2_with fail;with_reducible refine hK.out _ _ ?_ (λhHeld2=>?_))))
 focus((try dsimp only);exact bE.1 _ bB.1)
 focus(clear hK K;(try simp only[Act.put,Br,Bt,Bs]))
 refine Al 6 ?_;refine K5 7 rfl (λK hK=>?_);go_simp
 refine hK.out _ _ ?_;clear hK K
 (try simp only[Act.put,Br,Bt,Bs])
 go_wp2;go_ret2
 exact⟨⟨g,rfl,mH J.1.size cX.1,bC.1⟩,J.1.trans (bB.1.mono J.1.size)⟩
end
section
open Eli
theorem Ma:∀s,s<121->1<=s->Pl.kroP 1 s=1:=by decide +kernel
structure ALm (n q:Nat) (A B C E:Int):Prop where
 hq:0<q
 hn:0<n / q
 dv:n=q*(n / q)
 c:C=n
 e:E=q
 det:A*E - B*C=q
 bA:0<=A/\A<=n
 bB:-1<=B/\B<=q
 x:∃x:Int,A=q*x/\0<=x/\x<(n / q:Nat)
theorem ALm.one {n q:Nat} {A B C E:Int} (h:ALm n q A B C E):∃x:Int,A=q*x/\q*x - B*(n / q:Nat)=1:=by
 obtain⟨x,J,_,_⟩:=h.x;refine⟨x,J,?_⟩;have I:=h.det;have M:(n:Int)=q*(n / q:Nat):=by have:=congrArg (λk:Nat=>(k:Int)) h.dv;simpa using this
 rw[h.c,h.e,J,M]at I;have O:(q:Int)*(q*x - B*(n / q:Nat))=q*1:=by rw[Int.mul_one,<-I];grind
 exact Int.eq_of_mul_eq_mul_left (by have:=h.hq;omega) O
theorem ALm.uniq {n q:Nat} {A B C E A' B' U V:Int} (h:ALm n q A B C E) (I:ALm n q A' B' U V):A=A'/\B=B'/\C=U/\E=V:=by
 obtain⟨x,hx,Y⟩:=h.one;obtain⟨y,hy,Z⟩:=I.one;obtain⟨x',J,x0,x1⟩:=h.x;obtain⟨y',O,y0,y1⟩:=I.x;have hq:=h.hq;obtain rfl:x=x':=Int.eq_of_mul_eq_mul_left (show(q:Int)≠0 by omega) (hx.symm.trans J);obtain rfl:y=y':=Int.eq_of_mul_eq_mul_left (show(q:Int)≠0 by omega) (hy.symm.trans O);obtain⟨M,hM⟩:∃M:Int,((n / q:Nat):Int)=M:=⟨_,rfl⟩
 rw[hM]at Y Z x1 y1;have bG:0<M:=by have:=h.hn;omega
 have h3:x - y=M*(B*(y) - B'*x):=by
  have f1:x=x*((q:Int)*y - B'*M):=by rw[Z,Int.mul_one]
  have f2:y=y*((q:Int)*x - B*M):=by rw[Y,Int.mul_one]
  grind
 have h4:M∣x - y:=⟨_,h3⟩
 have h5:x=y:=by
  obtain⟨k,hk⟩:=h4;have h6:-M<M*k/\M*k<M:=by omega
  have h7:k=0:=by
   rcases Int.lt_trichotomy k 0 with h|h|h
   ·have:M*k<=M*(-1):=Int.mul_le_mul_of_nonneg_left (by omega) (by omega)
    omega
   ·exact h
   ·have:M*1<=M*k:=Int.mul_le_mul_of_nonneg_left (by omega) (by omega)
    omega
  rw[h7,Int.mul_zero]at hk;omega
 subst h5;have h6:B=B':=Int.eq_of_mul_eq_mul_right (show M≠0 by omega) (by omega);exact⟨by rw[hx,hy],h6,by rw[h.c,I.c],by rw[h.e,I.e]⟩
theorem Rt {n q:Nat} {A B C E k:Int} (V:Pl.check n k 1=0) (h:ALm n q A B C E):fP n n 1 A B C E:=by
 obtain⟨⟨a1,a2⟩,_⟩:=Pl.check_ok V;obtain⟨x,U,Y⟩:=h.one;intro a b c d s hg h1 h2 h3 h4;obtain⟨c1,I⟩:=hg.low;obtain⟨M,hM⟩:∃M:Int,((n / q:Nat):Int)=M:=⟨_,rfl⟩
 have hn:(n:Int)=q*M:=by rw[<-hM];have:=congrArg (λk:Nat=>(k:Int)) h.dv;simpa using this
 rw[hM]at Y;have aN:=hg.det;have J:=h.c;have O:=h.e;obtain⟨Q,hQ⟩:∃Q:Int,(q:Int)=Q:=⟨_,rfl⟩
 rw[hQ]at U Y O hn;rw[hn]at J I
 have hG:G0 n (A*a+B*c - (A*b+B*d)*M) (-(x*a*B)+Q*x*x*b+x*B*d - B*B*(M*c1)) (C*a+E*c - (C*b+E*d)*M) (-(M*a*B) - c*B+M*b*A+d*A):=by
  refine⟨?_,?_⟩
  ·subst U J O I
   grind
  ·refine⟨a+Q*c1 - M*b - d,?_⟩
   rw[hn];subst U J O I;grind
 obtain⟨s',Z,g2,g3,g4,_⟩:=bZ (by omega) hG;refine⟨_,_,_,_,s',hG,Z,g2,g3,g4,by rw[Ma s (by omega) h1,Ma s' (by omega) Z],?_,?_,?_,?_⟩
 all_goals
  subst U J O I
  grind
theorem dI {n wt:Nat} {D:Int} {x:Nat->Rat} {A B C E a b c e:Int} (hA:A*E - B*C≠0) (I:a*e - b*c≠0) (P:Nat->Rat) {u v:Int×Int} (V:Cu u) (Y:Cu v):
  clG n wt D x (A*a+B*c) (A*b+B*e) (C*a+E*c) (C*b+E*e) P u v=clG n wt D x A B C E (subst P wt e (-b) (-c) a (wt+1)) (img a b c e u) (img a b c e v):=by
 unfold clG;rw[Iw,Eo I hA V,Eo I hA Y];have J:e*E+-b * -C=C*b+E*e:=by grind
 have M:e * -B+-b*A=-(A*b+B*e):=by grind
 have O:-c*E+a * -C=-(C*a+E*c):=by grind
 have U:-c * -B+a*A=A*a+B*c:=by grind
 rw[J,M,O,U]
theorem fX {n q wt:Nat} {x:Nat->Rat} {A B C E a b c e:Int} (I:Pl.check n ((wt:Int)+2) 1=0) (Z:RelZ n wt 1 x) (h:ALm n q A B C E) (hg:G0 n a b c e) (P:Nat->Rat) {u v:Int×Int} (M:Cu u) (O:Cu v):
  clG n wt 1 x (A*a+B*c) (A*b+B*e) (C*a+E*c) (C*b+E*e) P u v=clG n wt 1 x A B C E P u v:=by
 obtain⟨⟨a1,a2⟩,_⟩:=Pl.check_ok I;have hA:A*E - B*C≠0:=by have h1:=h.det;have h2:=h.hq;omega
 obtain⟨s,J,U,V,Y,_⟩:=bZ (by omega) hg;rw[dI hA (by rw[hg.det];decide) P M O,(PF.of_norm I Z hA (Rt I h)).move P a b c e s u v hg J U V Y M O,Ma s (by omega) J];grind
theorem kU {n wt:Nat} {x:Nat->Rat} {A B C E a b c e:Int} (I:Pl.check n ((wt:Int)+2) 1=0) (h:RelZ n wt 1 x) (hA:A*E - B*C≠0) (hg:G0 n a b c e) (P:Nat->Rat) {u v:Int×Int} (M:Cu u) (O:Cu v):
  clG n wt 1 x (a*A+b*C) (a*B+b*E) (c*A+e*C) (c*B+e*E) P u v=clG n wt 1 x A B C E P u v:=by
 obtain⟨⟨a1,a2⟩,_⟩:=Pl.check_ok I;obtain⟨s,J,U,V,Y,_⟩:=bZ (by omega) hg;rw[dI (by rw[hg.det];decide) hA P M O];have Z:=Xx (Q:=subst P wt E (-B) (-C) A (wt+1)) I h hg J U V Y (Bn hA M) (Bn hA O);unfold clG;rw[Z,Ma s (by omega) J];grind
end
section
open Go.RowKit Eli Tryz
def dL (n:Nat) (q:Int):Prop:=∃m:Nat,q=m/\0<m/\m∣n/\Nat.gcd m (n / m)=1
def lR (n:Nat) (q:Int) (e:Ending):Prop:=
 (¬dL n q/\∃er:Int,er≠0/\e=.returned (.tuple #[.agg #[.int .i64 0,.int .i64 0,.int .i64 0,.int .i64 0],.int .i64 er])) ∨
 ∃(m:Nat) (A B C E:Int),q=m/\e=.returned (.tuple #[.agg #[.int .i64 A,.int .i64 B,.int .i64 C,.int .i64 E],.int .i64 0])/\ALm n m A B C E
theorem eQ (n:Nat) (w:World) (I:0<n) (hn:n<=120):
  Calls prog 73 #[.int .i64 n] w λe w'=>e=.returned (.int .i64 0)/\w'=w:=by
 have J:¬(n:Int)<1:=by omega
 have M:¬(120:Int)<n:=by omega
 clear I hn;go_enter func73,ntmps73
 go_wp2;go_ret;exact⟨rfl,rfl⟩
theorem Lk (n:Nat) (q:Int) (w:World) (h0:0<n) (hn:n<=120) (gL:-9223372036854775808<=q) (gN:q<=9223372036854775807):
  Calls prog 32 #[.int .i64 n,.int .i64 q] w λe w'=>lR n q e/\Below w.heap.size w w':=by
 have cY:=Kh (λW=>eQ n W h0 hn);have HN:=Kh (And.intro h0 hn);have mE:=Kh (And.intro gL gN);clear h0 hn gL gN;go_enter func32,ntmps32
 go_wp2_with fail
 obtain⟨w0,gU,X0,gA⟩:=bx1 w #[.int .i64 0,.int .i64 0,.int .i64 0,.int .i64 0] 63;rw[gU];obtain⟨Y,cF⟩:∃x,w.heap.size=x:=⟨_,rfl⟩
 have J:=Kh (show w.heap.size<=Y by omega);rw[cF]at X0;try rw[cF]
 have I:=Kh X0;have O:=Kh gA;clear gU X0 gA cF;refine(cY.1 w0).mono ?_;rintro e w' ⟨rfl,gS⟩;obtain rfl:w0=w':=gS.symm;clear gS cY;have r0:=I.1.at_ 0 rfl;have r1:=I.1.at_ 1 rfl;have r2:=I.1.at_ 2 rfl;have r3:=I.1.at_ 3 rfl;have f0:=I.1.free_ 0;have f1:=I.1.free_ 1;have f2:=I.1.free_ 2;have f3:=I.1.free_ 3;by_cases h1:q<1
 case pos=>
  have aN:=Kh (show ¬dL n q by rintro⟨m,rfl,Z,_⟩;omega);go_wp2;have U:=((((I.1.set_ 0 (.int .i64 0)).set_ 1 (.int .i64 0)).set_ 2 (.int .i64 0)).set_ 3 (.int .i64 0))
  have e0:=U.at_ 0 rfl;have e1:=U.at_ 1 rfl;have e2:=U.at_ 2 rfl;have e3:=U.at_ 3 rfl;try simp only[Exit.inBlock,Exit.then]
  refine bodyPost_ret (by simp[results,results32,go_sem,e0,e1,e2,e3];try rfl) rfl ?_;exact⟨.inl ⟨aN.1,2,by decide,rfl⟩,((((O.1.setCell (p:=⟨Y,0,none⟩) J.1 _).setCell (p:=⟨Y,1,none⟩) J.1 _).setCell (p:=⟨Y,2,none⟩) J.1 _).setCell (p:=⟨Y,3,none⟩) J.1 _)⟩
 obtain⟨m,Z⟩:∃m:Nat,q=m:=⟨q.toNat,by omega⟩
 have aD:0<m:=by omega
 obtain⟨r,hr⟩:∃r,n % m=r:=⟨_,rfl⟩
 have hn:=HN.1;have gP:r<=120:=by rw[<-hr];exact mH (Nat.mod_le _ _) hn.2
 have m1:(n:Int).tmod q=(r:Int):=by rw[Z,Int.tmod_eq_emod_of_nonneg (by omega),<-hr];rfl
 have hZ:IntKind.i64.wrap (r:Int)=(r:Int):=IntWalk.i64_in _ (by omega);have mQ:q≠0:=by omega
 have mL:¬q<1:=h1;by_cases hr0:r=0
 case neg=>
  have h3:((r:Int) != 0)=true:=by simp;omega
  have aN:=Kh (show ¬dL n q by
   rintro⟨k,hk,_,hd,_⟩;obtain rfl:m=k:=by omega
   exact hr0 (by rw[<-hr];exact Nat.mod_eq_zero_of_dvd hd))
  clear hr gP hr0 Z aD hn;go_wp2;have U:=((((I.1.set_ 0 (.int .i64 0)).set_ 1 (.int .i64 0)).set_ 2 (.int .i64 0)).set_ 3 (.int .i64 0))
  have e0:=U.at_ 0 rfl;have e1:=U.at_ 1 rfl;have e2:=U.at_ 2 rfl;have e3:=U.at_ 3 rfl;try simp only[Exit.inBlock,Exit.then]
  refine bodyPost_ret (by simp[results,results32,go_sem,e0,e1,e2,e3];try rfl) rfl ?_;exact⟨.inl ⟨aN.1,2,by decide,rfl⟩,((((O.1.setCell (p:=⟨Y,0,none⟩) J.1 _).setCell (p:=⟨Y,1,none⟩) J.1 _).setCell (p:=⟨Y,2,none⟩) J.1 _).setCell (p:=⟨Y,3,none⟩) J.1 _)⟩
 subst hr0;have iL:(n:Int).tmod q=0:=m1;have aX:m∣n:=Nat.dvd_of_mod_eq_zero hr;obtain⟨M,hM⟩:∃M,n / m=M:=⟨_,rfl⟩
 have V:n=m*M:=by rw[<-hM];exact(Nat.mul_div_cancel' aX).symm
 have aK:0<M:=by
  rcases Nat.eq_zero_or_pos M with h|h
  ·rw[h,Nat.mul_zero]at V;omega
  ·exact h
 have bC:M<=120:=by have h:1*M<=m*M:=Nat.mul_le_mul_right _ aD;omega
 have bE:m<=120:=by have h:m*1<=m*M:=Nat.mul_le_mul_left _ aK;omega
 have m2:(n:Int).tdiv q=(M:Int):=by rw[Z,Int.tdiv_eq_ediv_of_nonneg (by omega),<-hM];rfl
 have m3:IntKind.i64.wrap (M:Int)=(M:Int):=IntWalk.i64_in _ (by omega);have bA:=Kh (And.intro aX (And.intro hM (And.intro V (And.intro aK (And.intro bC (And.intro bE aD))))));have HM:=Kh Z;have cV:=Kh (λW=>E7 q (M:Int) W (by omega) (by omega) (by omega) (by omega));clear hr gP m1 hZ aX hM V aK bC bE aD Z hn r0 r1 r2 r3 f0 f1 f2 f3;go_wp2_with fail
 refine(cV.1 w0).mono ?_;rintro e w1 ⟨rfl,nd,gX⟩;have cC:Below w0.heap.size w0 w1:=by rw[gX];exact Aa (Below.refl _ _) _
 have dC:=Kh (bk I cC);have cG:=bt O cC;clear gX cC I O cV iL;have I:=dC;have O:=cG;clear dC cG;obtain⟨g,hg⟩:∃g,Int.gcd q (M:Int)=g:=⟨_,rfl⟩
 rw[hg];have r0:=I.1.at_ 0 rfl;have r1:=I.1.at_ 1 rfl;have r2:=I.1.at_ 2 rfl;have r3:=I.1.at_ 3 rfl;have f0:=I.1.free_ 0;have f1:=I.1.free_ 1;have f2:=I.1.free_ 2;have f3:=I.1.free_ 3;by_cases hg1:g=1
 case neg=>
  have h3:((g:Int) != 1)=true:=by simp;omega
  have aN:=Kh (show ¬dL n q by
   rintro⟨k,hk,_,_,gF⟩;have Z:=HM.1;obtain rfl:m=k:=by omega
   rw[bA.1.2.1]at gF;rw[Z,Int.gcd_natCast_natCast,gF]at hg;exact hg1 hg.symm)
  clear hg hg1;go_wp2;have U:=((((I.1.set_ 0 (.int .i64 0)).set_ 1 (.int .i64 0)).set_ 2 (.int .i64 0)).set_ 3 (.int .i64 0))
  have e0:=U.at_ 0 rfl;have e1:=U.at_ 1 rfl;have e2:=U.at_ 2 rfl;have e3:=U.at_ 3 rfl;try simp only[Exit.inBlock,Exit.then]
  refine bodyPost_ret (by simp[results,results32,go_sem,e0,e1,e2,e3];try rfl) rfl ?_;exact⟨.inl ⟨aN.1,9,by decide,rfl⟩,((((O.1.setCell (p:=⟨Y,0,none⟩) J.1 _).setCell (p:=⟨Y,1,none⟩) J.1 _).setCell (p:=⟨Y,2,none⟩) J.1 _).setCell (p:=⟨Y,3,none⟩) J.1 _)⟩
 subst hg1;have cX:=Kh (λW=>Lo q M W bA.1.2.2.2.1 (by have:=bA.1.2.2.2.2.1;omega) hg);clear hg r0 r1 r2 r3 f0 f1 f2 f3;go_wp2_with fail
 refine(cX.1 w1).mono ?_;rintro e w2 ⟨⟨u,rfl,hY,hu2⟩,cD⟩;have dE:=Kh (bk I cD);have cT:=bt O cD;clear cD I O cX;have I:=dE;have O:=cT;clear dE cT;obtain⟨aX,hM,V,aK,bC,bE,aD⟩:=bA.1;have Z:=HM.1;obtain⟨B,hB⟩:=hu2;obtain⟨P,hP⟩:∃P:Int,q*(u:Int)=P:=⟨_,rfl⟩
 have cB:P - 1=(M:Int)*B:=by rw[<-hP,<-hB,Int.mul_comm]
 have eP:0<=P:=by rw[<-hP,Z];exact Int.mul_nonneg (by omega) (by omega)
 have eV:P<=n:=by
  rw[<-hP,Z,V]
  push_cast
  exact Int.mul_le_mul_of_nonneg_left (by omega) (by omega)
 have dX:-1<=B:=by
  rcases Int.lt_or_le B (-1)with h|h
  ·have h2:(M:Int)*B<=M*(-2):=Int.mul_le_mul_of_nonneg_left (by omega) (by omega)
   omega
  ·exact h
 have dY:B<=m:=by
  rcases Int.lt_or_le (m:Int) B with h|h
  ·have h2:(M:Int)*(m:Int)<=M*B:=Int.mul_le_mul_of_nonneg_left (by omega) (by omega)
   have h3:(n:Int)=M*m:=by rw[V];push_cast;exact Int.mul_comm _ _
   omega
  ·exact h
 have hR:=Kh (show ALm n m P B n q from by
  have hW:(n:Int)=m*M:=by rw[V];push_cast;rfl
  refine⟨aD,by rw[hM];exact aK,by rw[hM];exact V,rfl,Z,?_,⟨eP,eV⟩,⟨dX,dY⟩,⟨u,by rw[<-hP,Z],by omega,by rw[hM];omega⟩⟩;rw[hW,Z];have h1:B*((m:Int)*M)=m*(P - 1):=by rw[cB];grind
  rw[h1];grind)
 have hX:=HN.1.2;have mR:IntKind.i64.wrap P=P:=IntWalk.i64_in _ (by omega);have mS:IntKind.i64.wrap (P - 1)=P - 1:=IntWalk.i64_in _ (by omega);have d1:(P - 1).tdiv (M:Int)=B:=by rw[cB];exact Int.mul_tdiv_cancel_left B (by omega)
 have mT:IntKind.i64.wrap B=B:=IntWalk.i64_in _ (by omega);have mN:(M:Int)≠0:=by omega
 clear hX aX hM V aK bC bE aD Z hB cB eP eV dX dY hY;have r0:=I.1.at_ 0 rfl;have r1:=I.1.at_ 1 rfl;have r2:=I.1.at_ 2 rfl;have r3:=I.1.at_ 3 rfl;have f0:=I.1.free_ 0;have f1:=I.1.free_ 1;have f2:=I.1.free_ 2;have f3:=I.1.free_ 3;go_wp2;have U:=((((I.1.set_ 0 (.int .i64 P)).set_ 1 (.int .i64 B)).set_ 2 (.int .i64 (n:Int))).set_ 3 (.int .i64 q))
 have e0:=U.at_ 0 rfl;have e1:=U.at_ 1 rfl;have e2:=U.at_ 2 rfl;have e3:=U.at_ 3 rfl;try simp only[Exit.inBlock,Exit.then]
 refine bodyPost_ret (by simp[results,results32,go_sem,e0,e1,e2,e3];try rfl) rfl ?_;exact⟨.inr ⟨m,P,B,n,q,HM.1,rfl,hR.1⟩,((((O.1.setCell (p:=⟨Y,0,none⟩) J.1 _).setCell (p:=⟨Y,1,none⟩) J.1 _).setCell (p:=⟨Y,2,none⟩) J.1 _).setCell (p:=⟨Y,3,none⟩) J.1 _)⟩
noncomputable def wM (n wt:Nat) (D:Int) (F:List Nat) (X:Nat->Nat->Rat) (γ:Nat->M4) (A B C E:Int) (i k:Nat):Rat:=
 Qa wt (pts n (n*n)).length γ (clG n wt D (λj=>X j (F.getD k 0)) A B C E) (F.getD i 0)
theorem Gb {x y:Int} {A B:Nat} (h:x.natAbs<=A) (I:y.natAbs<=B):(x*y).natAbs<=A*B:=by
 rw[Int.natAbs_mul];exact Nat.mul_le_mul h I
theorem Js {a b c d:Int} {A B:Nat} (I:a.natAbs<=A) (J:b.natAbs<=B) (M:c.natAbs<=A) (O:d.natAbs<=B):(a*b+c*d).natAbs<=2*(A*B):=by
 have U:=Gb I J;have V:=Gb M O;omega
theorem kT {A B C E:Int} {K H:Nat} {x:Int×Int} (I:A*E - B*C≠0) (bA:A.natAbs<=K) (bB:B.natAbs<=K) (bC:C.natAbs<=K) (bE:E.natAbs<=K) (O:Av x.1 x.2=0) (J:x.1.natAbs<=H) (M:x.2.natAbs<=H) (hK:2*(K*H)<=1073741824):
  Dy A B C E x.1 x.2=(img A B C E x,0)/\Av (img A B C E x).1 (img A B C E x).2=0/\(img A B C E x).1.natAbs<=1073741824/\(img A B C E x).2.natAbs<=1073741824:=by
 obtain⟨p,r⟩:=x;have U:=Js bA J bB M;have V:=Js bC J bE M;dsimp only at J M U V O ⊢;have h:=Mo (a:=A) (b:=B) (c:=C) (d:=E) (p:=p) (q:=r) I O (by omega) (by omega);exact⟨h.1,h.2.1,by have:=h.2.2.1;omega,by have:=h.2.2.2;omega⟩
theorem jC {wt e:Nat} {A B C E a b c d:Int} (h:wt<=22) (bA:-20000<=A/\A<=20000) (bB:-20000<=B/\B<=20000) (bC:-20000<=C/\C<=20000) (bE:-20000<=E/\E<=20000) (I:a.natAbs<=120) (M:b.natAbs<=120) (O:c.natAbs<=120) (J:d.natAbs<=120) (j:Nat):hq (subst (symP wt e A B C E) wt d (-b) (-c) a (wt+1) j)<=4000:=by
 unfold symP;rw[Iw];have U:=Js (A:=20000) (B:=120) (a:=E) (b:=d) (c:=-B) (d:=-c) (by omega) J (by omega) (by omega);have V:=Js (A:=20000) (B:=120) (a:=E) (b:=-b) (c:=-B) (d:=a) (by omega) (by omega) (by omega) I;have Y:=Js (A:=20000) (B:=120) (a:=-C) (b:=d) (c:=A) (d:=-c) (by omega) J (by omega) (by omega);have Z:=Js (A:=20000) (B:=120) (a:=-C) (b:=-b) (c:=A) (d:=a) (by omega) (by omega) (by omega) I;exact Cs (K:=4) (λi _=>mH (Nd e i) (by decide)) (C8 (by omega) (by omega)) (C8 (by omega) (by omega)) (C8 (by omega) (by omega)) (C8 (by omega) (by omega)) (by omega) (by omega)
theorem ALm.abs {n q:Nat} {A B C E:Int} (h:ALm n q A B C E) (hn:n<=120):A.natAbs<=120/\B.natAbs<=120/\C.natAbs<=120/\E.natAbs<=120:=by
 have I:=h.bA;have J:=h.bB;have M:=h.c;have O:=h.e;have U:q*1<=q*(n / q):=Nat.mul_le_mul_left _ h.hn;have V:=h.dv;omega
theorem ALm.det0 {n q:Nat} {A B C E:Int} (h:ALm n q A B C E):A*E - B*C≠0:=by
 have I:=h.det;have J:=h.hq;omega
theorem lH {n q wt:Nat} {F:List Nat} {X:Nat->Nat->Rat} {γ:Nat->M4} {i k:Nat} {a b c d:Int} (I:Pl.check n ((wt:Int)+2) 1=0) (Y:∀f,f∈F->RelZ n wt 1 (λj=>X j f)) (O:D3 n γ) (J:ALm n q a b c d) (Z:k<F.length) (V:0<(pts n (n*n)).length) {A B C E:Int} (U:LiftOf n (F.getD i 0 % (pts n (n*n)).length) A B C E):
  Pot (Ag n wt 1 (λj=>X j (F.getD k 0)) (subst (symP wt (F.getD i 0 / (pts n (n*n)).length) A B C E) wt d (-b) (-c) a (wt+1))) (img a b c d (img A B C E (1,0))) - Pot (Ag n wt 1 (λj=>X j (F.getD k 0)) (subst (symP wt (F.getD i 0 / (pts n (n*n)).length) A B C E) wt d (-b) (-c) a (wt+1))) (img a b c d (img A B C E (0,1)))=wM n wt 1 F X γ a b c d i k:=by
 have M:=PF.of_norm (A:=a) (B:=b) (C:=c) (E:=d) I (Y _ (Bd Z)) J.det0 (Rt I J);exact Vi I M O (Nat.mod_lt _ V) U
theorem RowsX.nil (F:Nat->Nat->Rat) (C:Nat) (w:World) (B:Nat):RowsX F 0 C w B (.slice none 0 0):=⟨λ_=>0,OwnK.nil _ _ _ _ _,λ_ _ I=>absurd I (Nat.not_lt_zero _)⟩
def WAny (n wt R:Nat) (D q:Int) (F:List Nat) (X:Nat->Nat->Rat) (γ:Nat->M4) (w':World) (a b:Int) (v:Option Addr) (s c:Nat) (er:Int):Prop:=
 (D=1->dL n q->er=0)/\(er=0->∃(m:Nat) (A B C E:Int),D=1/\q=m/\ALm n m A B C E/\a=R/\b=R/\s=R*R/\QL (λj=>IsQ (wM n wt 1 F X γ A B C E (j / R) (j % R))) w' (.slice v (R*R) c) (R*R)/\∀i k,i<R->k<R->hq (wM n wt 1 F X γ A B C E i k)<=430000000)
theorem aJ {M n wt:Nat} {D:Int} {F:List Nat} {C:Nat} {X:Nat->Nat->Rat} {γ:Nat->M4} (q:Int) (w:World) (hT:Tab w) (hm:ModR w M n wt D F C X) (hO:∀f,f∈F->f<C) (rZ:D3 n γ) (rJ:-9223372036854775808<=q) (rK:q<=9223372036854775807):
  Calls prog 41 #[.pointer (some ⟨M,0,none⟩),.int .i64 q] w λe w'=>(∃a b v s c er,e=.returned (.tuple #[.agg #[.int .i64 a,.int .i64 b,.slice v s c],.int .i64 er])/\WAny n wt F.length D q F X γ w' a b v s c er)/\Below w.heap.size w w':=by
 have hM:=hm.check;have gS:wt<=22:=by have:=(Pl.check_ok hM).2.1;omega
 have oQ:0<n:=by have:=Aj hM;omega
 have oR:n<=120:=by have:=Aj hM;omega
 have hN:0<(pts n (n*n)).length∨F.length=0:=by
  rcases Nat.eq_zero_or_pos F.length with h|h
  ·exact .inr h
  ·have h1:=hO _ (Bd h)
   rw[<-hm.cnt,cntF]at h1;rcases Nat.eq_zero_or_pos (pts n (n*n)).length with h2|h2
   ·rw[h2,Nat.mul_zero]at h1;omega
   ·exact .inl h2
 have qN:=Kh (λW (Y:Below w.heap.size w W)=>Ge M W.heap.size n ((wt:Int)+2) D F C X W (hm.keep Y).mod (mG _));have pT:=Kh (λW (Y:Below w.heap.size w W)=>Ln M W.heap.size n ((wt:Int)+2) D F C X W (hm.keep Y).mod);have pX:=Kh (λW (Y:Below w.heap.size w W)=>dN M W.heap.size n ((wt:Int)+2) D F C X W (hm.keep Y).mod (by have:=hm.len;omega));have qJ:=Kh (λW (Y:Below w.heap.size w W) i (hi:i<F.length)=>dS M n wt D F C X (F.getD i 0) (F.getD i 0 % (pts n (n*n)).length) (F.getD i 0 / (pts n (n*n)).length) W (hT.below Y) (hm.keep Y) (by have h1:=hO _ (Bd hi);rw[<-hm.cnt,cntF]at h1;exact h1) rfl rfl);have sQ:=Kh (λW (Y:Below w.heap.size w W) v f p q p' q' hp hf a1 a2 a3 a4 a5 a6 a7 a8=>Gv (hT.below Y) (hm.keep Y) v f p q p' q' hp hf a1 a2 a3 a4 a5 a6 a7 a8);have pN:=Kh (λW=>Lk n q W oQ oR rJ rK);have qO:=Kh (λ(hD:D=1) (m:Nat) a b c d (J:ALm n m a b c d) i k (hk:k<F.length) (h0:0<(pts n (n*n)).length) A B C0 E (hL:LiftOf n (F.getD i 0 % (pts n (n*n)).length) A B C0 E)=>lH (F:=F) (X:=X) (γ:=γ) (i:=i) (k:=k) (hD▸hM) (hD▸hm.rel) rZ J hk h0 hL);have pW:=Kh hm.len;have qH:=Kh (And.intro oQ (And.intro oR gS));clear hM hT hm hO rZ oQ oR gS rJ rK;go_enter func41,ntmps41
 go_wp2_with fail
 obtain⟨w0,rS,X0,rB⟩:=bx1 w #[.int .i64 0,.int .i64 0,.slice none 0 0] 32;rw[rS];obtain⟨gr,mN⟩:∃x,w.heap.size=x:=⟨_,rfl⟩
 have nK:=Kh mN;rw[mN]at X0;try rw[mN]
 have qP:=Kh X0;have nH:=Kh rB;clear rS X0 rB mN;refine(qN.1 w0 nH.1).mono ?_;rintro e w1 ⟨rfl,nZ⟩;have qQ:=Kh (bk qP nZ);have pO:=bt nH nZ;clear nZ qP nH qN;go_upto_region 4 with(fail)
 obtain⟨w2,rT,S2,oA⟩:=bx1 w1 #[.int .i64 n,.int .i64 ((wt:Int)+2),.int .i64 D] 23;rw[rT];obtain⟨gs,oN⟩:∃x,w1.heap.size=x:=⟨_,rfl⟩
 rw[oN]at S2;try rw[oN]
 have cA:=Kh (bk qQ oA);have hZ:=bt pO oA;have nP:=Kh S2;clear rT S2 oA oN qQ pO;have s0:=nP.1.at_ 0 rfl;have s2:=nP.1.at_ 2 rfl;by_cases hD:D=1
 case neg=>
  have uV:(D != 1)=true:=by rw[bne_iff_ne];exact hD
  have sU:=Kh hD;have x0:=cA.1.at_ 0 rfl;have x1:=cA.1.at_ 1 rfl;have x2:=cA.1.at_ 2 rfl;have f0:=cA.1.free_ 0;have f1:=cA.1.free_ 1;have f2:=cA.1.free_ 2;have U:=Kh (Hy (w:=w2) (R:=gr) (v0:=.int .i64 0) (v1:=.int .i64 0) (v2:=.slice none 0 0) (by rw[x0];rfl) (by rw[x1];rfl) (by rw[x2];rfl));have gA:=Kh (((Ai w2 gr 0 (.int .i64 0)).trans (Ai _ gr 1 (.int .i64 0))).trans (Ai _ gr 2 (.slice none 0 0)));clear hD;go_wp2;have e0:=U.1.1;have e1:=U.1.2.1;have e2:=U.1.2.2;try simp only[Exit.inBlock,Exit.then]
  refine bodyPost_ret (by simp[results,results41,go_sem,e0,e1,e2];try rfl) rfl ?_;exact⟨⟨_,_,_,_,_,_,rfl,λh=>absurd h sU.1,λh=>absurd h (by decide)⟩,An hZ.1 gA.1 hZ.1.size (by have:=nK.1;omega)⟩
 subst hD;go_wp2_with fail
 refine(pN.1 w2).mono ?_;rintro e w3 ⟨J,oB⟩;have mC:=Kh (bk cA oB);have iL:=bt hZ oB;clear s0 s2 oB cA hZ nP pN;rcases J with⟨rH,er,oJ,rfl⟩ |⟨m,A,B,C0,E,mP,rfl,J⟩
 ·have uY:(er != 0)=true:=by rw[bne_iff_ne];exact oJ
  have sY:=Kh rH;have sS:=Kh oJ;clear rH oJ;go_upto_region 7 with(fail)
  obtain⟨w4,hX,_,cV⟩:=bx1 w3 #[.int .i64 0,.int .i64 0,.int .i64 0,.int .i64 0] 63;rw[hX];have aK:=Kh (bk mC cV);have eV:=bt iL cV;clear hX cV mC iL;have x0:=aK.1.at_ 0 rfl;have x1:=aK.1.at_ 1 rfl;have x2:=aK.1.at_ 2 rfl;have f0:=aK.1.free_ 0;have f1:=aK.1.free_ 1;have f2:=aK.1.free_ 2;have U:=Kh (Hy (w:=w4) (R:=gr) (v0:=.int .i64 0) (v1:=.int .i64 0) (v2:=.slice none 0 0) (by rw[x0];rfl) (by rw[x1];rfl) (by rw[x2];rfl));have gA:=Kh (((Ai w4 gr 0 (.int .i64 0)).trans (Ai _ gr 1 (.int .i64 0))).trans (Ai _ gr 2 (.slice none 0 0)));go_wp2;have e0:=U.1.1;have e1:=U.1.2.1;have e2:=U.1.2.2;try simp only[Exit.inBlock,Exit.then]
  refine bodyPost_ret (by simp[results,results41,go_sem,e0,e1,e2];try rfl) rfl ?_;exact⟨⟨_,_,_,_,_,_,rfl,λ_ h=>absurd h sY.1,λh=>absurd h sS.1⟩,An eV.1 gA.1 eV.1.size (by have:=nK.1;omega)⟩
 go_upto_region 7 with(fail)
 obtain⟨w4,hX,G4,cV⟩:=bx1 w3 #[.int .i64 A,.int .i64 B,.int .i64 C0,.int .i64 E] 63;rw[hX];obtain⟨gg,oL⟩:∃x,w3.heap.size=x:=⟨_,rfl⟩
 rw[oL]at G4;try rw[oL]
 have aK:=Kh (bk mC cV);have eV:=bt iL cV;have qB:=Kh G4;clear hX G4 cV oL mC iL;obtain⟨bA,bB,bC,bE⟩:=J.abs qH.1.2.1;have nG:=Kh (And.intro mP (And.intro J (And.intro (And.intro bA bB) (And.intro bC bE))));have oX:=λi k hk h0 A1 B1 C1 E1 hL=>qO.1 (by simp) m A B C0 E J i k hk h0 A1 B1 C1 E1 hL
 obtain⟨R,hR⟩:∃R,F.length=R:=⟨_,rfl⟩
 obtain⟨N,nW⟩:∃N,(pts n (n*n)).length=N:=⟨_,rfl⟩
 obtain⟨RM,nY⟩:∃RM,wM n wt 1 F X γ A B C0 E=RM:=⟨_,rfl⟩
 rw[nW,hR]at hN qJ;rw[nW,hR,nY]at oX;rw[hR]at pT pW;have uC:R<=72:=pW.1;have bY:=Kh hR;have qL:=Kh nY;have sR:=Kh oX;have sZ:=Kh hN;clear qO mP J bA bB bC bE oX hR nW nY hN;go_wp2_with fail
 refine(pX.1 w4 eV.1).mono ?_;rintro e w5 ⟨⟨vF,rfl,rI⟩,mL⟩;have mA:=Kh (show OwnK NotU32 w5 w4.heap.size 3 1 vF R (F.map λn:Nat=>Value.int .i64 (n:Int))from by have h:=rI;unfold OwnN at h;rw[bY.1]at h;exact h);obtain⟨pF,cF,rfl⟩:=Bf mA.1.1
 have pV:=Kh (show ∀gF,pF=some ⟨gF,0,none⟩->∀k,k<R->w5.cell? ⟨gF,k,none⟩=some (.int .i64 ((F.getD k 0:Nat):Int))from λgF tO k hk=>by
  subst tO;exact Aq mA.1.1 (by rw[List.getElem?_map,List.getD_eq_getElem?_getD,List.getElem?_eq_getElem (show k<F.length by rw[bY.1];exact hk)];rfl))
 have tA:=Kh (show 0<R->∃gF,pF=some ⟨gF,0,none⟩from λh=>by
  obtain⟨gF,uR,e,_⟩:=He mA.1 h;injection e with e1 e2 e3
  exact⟨gF,e1⟩)
 have pQ:=bt eV mL;have qS:=Kh (bk aK mL);have qC:=Kh (bk qB mL);clear rI mL eV aK qB pX mA;go_wp2_with fail
 go_loopw [9,38] (λv8 ii wr=>∃i:Nat,i<=R/\ii=.int .i64 i/\RowsX RM i R wr w.heap.size v8/\(∀gF,pF=some ⟨gF,0,none⟩->∀k,k<R->wr.cell? ⟨gF,k,none⟩=some (.int .i64 ((F.getD k 0:Nat):Int)))/\(∀a b,a<i->b<R->hq (RM a b)<=430000000)/\Below w.heap.size w wr/\Blk wr gr 32 #[.int .i64 0,.int .i64 0,.slice none 0 0]/\Blk wr gg 63 #[.int .i64 A,.int .i64 B,.int .i64 C0,.int .i64 E]) (λ_ ii _=>R - (intOf ii).toNat)
 case atStart=>exact⟨0,Nat.zero_le _,rfl,RowsX.nil _ _ _ _,pV.1,λa b h=>absurd h (Nat.not_lt_zero _),pQ.1,qS.1,qC.1⟩
 case round=>
  obtain⟨i,hi,rfl,rM,rE,rQ,rC,rX,rG⟩:=hrel;obtain⟨wx,rfl⟩:∃wx:World,wx=wr:=⟨_,rfl⟩
  have hG:=Kh rM;have nJ:=Kh rE;have nQ:=Kh rQ;have cG:=Kh rC;have nS:=Kh rX;have qE:=Kh rG;clear rM rE rQ rC rX rG pV pQ qS qC;by_cases hlt:i<R
  ·have uX:(i:Int)<(R:Int):=by omega
   obtain⟨gF,rfl⟩:=tA.1 (by omega);have c0:=nJ.1 gF rfl i hlt;obtain⟨jf,oO⟩:∃j,F.getD i 0=j:=⟨_,rfl⟩
   have qF:=Kh oO;have tL:0<N:=by have:=sZ.1;omega
   have oS:=qJ.1 wx cG.1 i hlt;rw[oO]at c0 oS;have mU:=Kh oS;clear oO oS;go_wp2_with fail
   refine mU.1.mono ?_;rintro e w6 ⟨⟨A1,B1,C1,E1,g6,hJ,rfl,hL,tN,bG⟩,gL⟩;obtain⟨⟨_,oF,oY,oZ⟩,_,oG,pA,pB⟩:=Ps hL.det hL.bA hL.bB hL.bC hL.bE;have O:=λk hk=>sR.1 i k hk tL A1 B1 C1 E1 (by rw[qF.1];exact hL)
   rw[qF.1]at O;obtain⟨x,hx⟩:∃x,img A1 B1 C1 E1 (0,1)=x:=⟨_,rfl⟩
   obtain⟨y,hy⟩:∃y,img A1 B1 C1 E1 (1,0)=y:=⟨_,rfl⟩
   rw[hx]at oF oY oZ O;rw[hy]at oG pA pB O;rw[hx,hy];obtain⟨mP,J,⟨bA,bB⟩,bC,bE⟩:=nG.1;have gS:=qH.1.2.2;obtain⟨ex,oH,bx1,bx2⟩:=kT (K:=120) (H:=20000) J.det0 bA bB bC bE oF oY oZ (by decide);obtain⟨ey,oI,qT,qU⟩:=kT (K:=120) (H:=20000) J.det0 bA bB bC bE oG pA pB (by decide);obtain⟨u,hu⟩:∃u,img A B C0 E x=u:=⟨_,rfl⟩
   obtain⟨v,hv⟩:∃v,img A B C0 E y=v:=⟨_,rfl⟩
   rw[hu]at ex oH bx1 bx2 O;rw[hv]at ey oI qT qU O;obtain⟨S,hS⟩:∃S,symP wt (jf / N) A1 B1 C1 E1=S:=⟨_,rfl⟩
   have rO:∀j,hq (S j)<=4000:=λj=>by rw[<-hS];exact Uy gS (by have:=hL.bA;omega) (by have:=hL.bB;omega) (by have:=hL.bC;omega) (by have:=hL.bE;omega) j
   have rP:∀j,hq (subst S wt E (-B) (-C0) A (wt+1) j)<=4000:=λj=>by rw[<-hS];exact jC gS hL.bA hL.bB hL.bC hL.bE bA bB bC bE j
   rw[hS]at bG O;have nO:=Kh bG;have pU:=Kh O;have nB:=cG.1.trans (gL.mono cG.1.size);have pR:=Kh nB;have hI:=Kh (λW (Y:Below w6.heap.size w6 W)=>(El 4000 (by decide) (by decide) (.slice (some ⟨g6,0,none⟩) (wt+1) hJ) (wt+1) (λi=>(S i).num) (λi=>((S i).den:Int)) x.1 x.2 y.1 y.2 A B C0 E W (((bG.keep (λ_=>IsQ.solid _) Y).ql hJ).isB (λi _=>rO i)) (by omega) (by omega) (by omega) (by omega) (by omega) (by omega) (by omega) (by omega) (by omega) (by omega) J.det0 (by omega) (by omega) (by omega) (by omega) (by omega) (by omega) (by omega) (by omega)));have he:cZ A B C0 E x.1 x.2 y.1 y.2=0:=by unfold cZ;rw[ex,ey];rfl
   rw[ex,ey,he,show(λi=>Rat.divInt (S i).num ((S i).den:Int))=S from funext λi=>Rat.num_divInt_den _,Nat.add_sub_cancel]at hI;have dE:=Kh (λW (Y:Below w.heap.size w W) vq tQ=>sQ.1 W Y vq (subst S wt E (-B) (-C0) A (wt+1)) u.1 u.2 v.1 v.2 tQ (λj _=>rP j) (by omega) (by omega) (by omega) (by omega) (by omega) (by omega) (by omega) (by omega));have nI:=Kh (And.intro oH oI);have mV:=Kh (hG.1.keep gL);have mT:=Kh (show ∀k,k<R->w6.cell? ⟨gF,k,none⟩=some (.int .i64 ((F.getD k 0:Nat):Int))from λk hk=>cell_next gL (nJ.1 gF rfl k hk));have mX:=Kh (bk nS gL);have hB:=Kh (bk qE gL);obtain⟨x0,rW⟩:∃i,x.1=i:=⟨_,rfl⟩
   obtain⟨x1,nE⟩:∃i,x.2=i:=⟨_,rfl⟩
   obtain⟨y0,rY⟩:∃i,y.1=i:=⟨_,rfl⟩
   obtain⟨y1,nF⟩:∃i,y.2=i:=⟨_,rfl⟩
   obtain⟨u0,oU⟩:∃i,u.1=i:=⟨_,rfl⟩
   obtain⟨u1,oV⟩:∃i,u.2=i:=⟨_,rfl⟩
   obtain⟨v0,oW⟩:∃i,v.1=i:=⟨_,rfl⟩
   obtain⟨v1,hv1⟩:∃i,v.2=i:=⟨_,rfl⟩
   have mB:=Kh (show u=(u0,u1)/\v=(v0,v1)from⟨by rw[<-oU,<-oV],by rw[<-oW,<-hv1]⟩);rw[rW,nE,rY,nF]at hI ⊢;rw[oU,oV,oW,hv1]at dE nI;obtain⟨L1,qY⟩:∃L1,wt+1=L1:=⟨_,rfl⟩
   have qG:=Kh qY;rw[qY]at hI dE nO ⊢;clear hL oF oY oZ oG pA pB O hx hy ex oH bx1 bx2 ey oI qT qU hu hv hS rO rP bG nB he rW nE rY nF oU oV oW hv1 c0 tN gL mU hG nJ nS qE cG mP J bA bB bC bE gS;go_upto_region 16 with(fail)
   obtain⟨w7,rU,P7,mM⟩:=bx1 w6 #[.slice (some ⟨g6,0,none⟩) L1 hJ,.int .i64 x0,.int .i64 x1,.int .i64 y0,.int .i64 y1] 57;rw[rU];obtain⟨gp,oM⟩:∃x,w6.heap.size=x:=⟨_,rfl⟩
   rw[oM]at P7 ⊢;have qD:=Kh oM;have mW:=Kh (hI.1 w7 mM);have mR:=Kh mM;have nN:=Kh P7;have bH:=Kh (bk hB mM);have p0:=P7.at_ 0 rfl;have p1:=P7.at_ 1 rfl;have p2:=P7.at_ 2 rfl;have p3:=P7.at_ 3 rfl;have p4:=P7.at_ 4 rfl;have q0:=bH.1.at_ 0 rfl;have q1:=bH.1.at_ 1 rfl;have q2:=bH.1.at_ 2 rfl;have q3:=bH.1.at_ 3 rfl;clear rU P7 mM oM hI bH;go_wp2_with fail
   refine mW.1.mono ?_;rintro e w8 ⟨rN,oC⟩;obtain⟨_,cT,V,rfl,rF,hQ⟩:=rN.resolve_left (λh=>h.1 rfl);dsimp only;rw[mB.1.1,mB.1.2];dsimp only;have hE:=Kh hQ;have P8:=bk nN oC;have I:=Kh P8;have mS:=bt mR oC;have qI:=Kh (show cT≠gp by have h1:=nN.1.lt;omega);clear p0 p1 p2 p3 p4 q0 q1 q2 q3 rN oC rF hQ mR mW P8 nN;have p0:=I.1.at_ 0 rfl;have p1:=I.1.at_ 1 rfl;have p2:=I.1.at_ 2 rfl;have p3:=I.1.at_ 3 rfl;have p4:=I.1.at_ 4 rfl;have f0:=I.1.free_ 0;have f1:=I.1.free_ 1;have f2:=I.1.free_ 2;have f3:=I.1.free_ 3;have f4:=I.1.free_ 4;go_upto_region 17 with(fail)
   have hU:Stk NotU32 w8 gp:=Stk.of I.1 (by intro v hv;simp at hv;rcases hv with rfl|rfl|rfl|rfl|rfl <;> exact λ_ h=>by cases h);have gN:w6.heap.size<=gp:=Nat.le_of_eq qD.1;have qX:=I32.path hU (some ⟨cT,0,none⟩) L1 V u0 u1 v0 v1;have nD:=Jr w8 gp (.slice (some ⟨cT,0,none⟩) L1 V) (.int .i64 u0) (.int .i64 u1) (.int .i64 v0) (.int .i64 v1);have P9:=((((I.1.set_ 0 (.slice (some ⟨cT,0,none⟩) L1 V)).set_ 1 (.int .i64 u0)).set_ 2 (.int .i64 u1)).set_ 3 (.int .i64 v0)).set_ 4 (.int .i64 v1);have eP:=((((mS.1.setCell (p:=⟨gp,0,none⟩) gN (.slice (some ⟨cT,0,none⟩) L1 V)).setCell (p:=⟨gp,1,none⟩) gN (.int .i64 u0)).setCell (p:=⟨gp,2,none⟩) gN (.int .i64 u1)).setCell (p:=⟨gp,3,none⟩) gN (.int .i64 v0)).setCell (p:=⟨gp,4,none⟩) gN (.int .i64 v1);have cY:=hE.1.i32 (λ_=>IsQ.solid _) qX nD qI.1;obtain⟨w9,rV⟩:∃w9,((((w8.setCell ⟨gp,0,none⟩ (.slice (some ⟨cT,0,none⟩) L1 V)).setCell ⟨gp,1,none⟩ (.int .i64 u0)).setCell ⟨gp,2,none⟩ (.int .i64 u1)).setCell ⟨gp,3,none⟩ (.int .i64 v0)).setCell ⟨gp,4,none⟩ (.int .i64 v1)=w9:=⟨_,rfl⟩
   rw[rV]at P9 eP cY ⊢;have Z:=pR.1.trans (eP.mono pR.1.size);have pS:=Kh (dE.1 w9 Z (.slice (some ⟨cT,0,none⟩) L1 V) (cY.ql V));have gY:=Kh Z;have gX:=Kh eP;clear p0 p1 p2 p3 p4 f0 f1 f2 f3 f4 hU gN qX nD cY rV eP Z dE mS hE I qI qD;have p0:=P9.at_ 0 rfl;have p1:=P9.at_ 1 rfl;have p2:=P9.at_ 2 rfl;have p3:=P9.at_ 3 rfl;have p4:=P9.at_ 4 rfl;clear P9;go_wp2_with fail
   refine pS.1.mono ?_;rintro e wv ⟨rD,oE⟩
   obtain⟨_,gv,rfl,_,oT,hV⟩:=rD.resolve_left (λh=>by
    rcases h.1 with h1|h1
    ·exact h1 nI.1.1
    ·exact h1 nI.1.2)
   rw[bY.1]at oT hV ⊢;have O:=pU.1;rw[mB.1.1,mB.1.2,qG.1]at O;have cC:=gX.1.trans (oE.mono gX.1.size);have mQ:=bt gY oE;have tD:=Kh (show QRow (λq=>IsQ (RM i q)) wv gv R R from oT.congr (λq hq=>by rw[O q hq]))
   have tE:=Kh (show ∀a b,a<i+1->b<R->hq (RM a b)<=430000000 from λa b ha Y=>by
    rcases Nat.lt_or_ge a i with h|h
    ·exact nQ.1 a b h Y
    ·obtain rfl:a=i:=by omega
     have h1:=hV b Y;rw[O b Y]at h1;exact h1)
   obtain⟨tI,oP,rL⟩:=mV.1.keep cC;have oK:∀k,k<R->wv.cell? ⟨gF,k,none⟩=some (.int .i64 ((F.getD k 0:Nat):Int)):=λk hk=>cell_next cC (mT.1 k hk)
   have nR:=Kh (bk mX cC);have nL:=Kh (bk hB cC)
   have cX:∀{b:Nat} {i:Int},wv.cell? ⟨b,0,none⟩=some (.int .i64 i)->some b≠Value.ownBlock u9:=λh e=>by
    obtain⟨p',n',c',h3⟩:=(oP.2 _ e.symm).2 0 _ h;cases h3
   have sV:=Kh (cX (oK 0 (by omega)));have sW:=Kh (cX (nR.1.at_ 0 rfl));have sX:=Kh (cX (nL.1.at_ 0 rfl));have nM:=Kh oP;have tC:=Kh rL;have pZ:=Kh oK;have nC:=mQ.1.size;have uE:i<=72:=by omega
   clear p0 p1 p2 p3 p4 rD oE oT hV O cC oP rL oK cX mV mT mX hB pS gY gX;go_wp2_with (at_builtin;refine Bj SliceV rfl (.tmp 72) (.tmp 74) _ 30 rfl underlying104 Hl rfl (by decide) w.heap.size i u9 ((List.range i).map λi=>Value.slice (some ⟨tI i,0,none⟩) R R) [.slice (some ⟨gv,0,none⟩) R R] rfl nM.1 rfl rfl (gV _ _ _) (by omega) (by omega) nC (jR _ _ _) jQ ?_;intro v9 pC hP aD rA;have qM:=Kh (RowsX.push nM.1 tC.1 tD.1 hP aD);have pY:=Kh (show ∀g,some (⟨gF,0,none⟩:Addr)=some ⟨g,0,none⟩->∀k,k<R->pC.cell? ⟨g,k,none⟩=some (.int .i64 ((F.getD k 0:Nat):Int))from λg hg k hk=>by(injection hg with hg;injection hg with hg;subst hg;exact aD.cell (pZ.1 k hk) sV.1));have qR:=Kh (show Blk pC gr 32 #[.int .i64 0,.int .i64 0,.slice none 0 0]from(aD.block gr nR.1.lt sW.1).trans nR.1);have qA:=Kh (show Blk pC gg 63 #[.int .i64 A,.int .i64 B,.int .i64 C0,.int .i64 E]from(aD.block gg nL.1.lt sX.1).trans nL.1);have pP:=Kh (Aw mQ.1 nM.1.1 aD (mG _) nC);clear hP aD rA)
   go_roundw
   case rel=>exact⟨i+1,by omega,by go_num,qM.1,pY.1,tE.1,pP.1,qR.1,qA.1⟩
   case measure=>simp[intOf];omega
  ·obtain rfl:R=i:=by omega
   clear hlt hi;go_wp2_with fail
   refine(pT.1 wx cG.1).mono ?_;rintro e w' ⟨rfl,rR⟩;obtain rfl:wx=w':=rR.symm;clear rR;go_wp2_with fail
   refine(Oe RM R R u9 wx hG.1.read (by omega) (by omega) (λa b ha Y=>mH (nQ.1 a b ha Y) (by decide))).mono ?_;rintro e w9 ⟨⟨p9,c9,rfl,mO⟩,oD⟩;have X9:=bk nS oD;have Z:=cG.1.trans (oD.mono cG.1.size);have x0:=X9.at_ 0 rfl;have x1:=X9.at_ 1 rfl;have x2:=X9.at_ 2 rfl;have f0:=X9.free_ 0;have f1:=X9.free_ 1;have f2:=X9.free_ 2;have hU:Stk NotU32 w9 gr:=Stk.of X9 (by intro v hv;simp at hv;rcases hv with rfl|rfl|rfl <;> exact λ_ h=>by cases h);have cX:Stk (λv=>∀b,v≠.bool b) w9 gr:=Stk.of X9 (by intro v hv;simp at hv;rcases hv with rfl|rfl|rfl <;> exact λ_ h=>by cases h);obtain⟨RL,nX⟩:∃x,R*R=x:=⟨_,rfl⟩
   have qK:=Kh nX;rw[nX]at mO ⊢
   have tB:=Kh (show ∀W,I32 w9 W->w9.grownBy W (some gr)->QL (λj=>IsQ (RM (j / R) (j % R))) W (.slice p9 RL c9) RL from λW h1 h2=>by
    rcases Nat.eq_zero_or_pos RL with h|h
    ·exact .inl ⟨h,_,_,by rw[h]⟩
    ·exact mO.boxed (λ_=>IsQ.solid _) h1 h2 (λa ha e=>by
      obtain⟨g,o,cap,e1,_,h1⟩:=mO.resolve_left (λh=>by omega);injection e1 with e1
      obtain⟨s,p,n',c,t,q,m',d,h2,_⟩:=h1 0 h;rw[ha]at e1;injection e1 with e1
      rw[e1]at e;rw[show g=gr from e]at h2;exact cX.2 _ _ h2 _ rfl))
   have U:=Kh (Hy (w:=w9) (R:=gr) (v0:=.int .i64 (R:Int)) (v1:=.int .i64 (R:Int)) (v2:=.slice p9 RL c9) (by rw[x0];rfl) (by rw[x1];rfl) (by rw[x2];rfl));have sT:=Kh (Hi hU (v0:=.int .i64 (R:Int)) (v1:=.int .i64 (R:Int)) (v2:=.slice p9 RL c9) (λ_ h=>by cases h) (λ_ h=>by cases h));have gA:=Kh (((Ai w9 gr 0 (.int .i64 (R:Int))).trans (Ai _ gr 1 (.int .i64 (R:Int)))).trans (Ai _ gr 2 (.slice p9 RL c9)));have gY:=Kh Z;clear mO oD Z X9 hU cX nX;go_wp2;have e0:=U.1.1;have e1:=U.1.2.1;have e2:=U.1.2.2;try simp only[Exit.inBlock,Exit.then]
   refine bodyPost_ret (by simp[results,results41,go_sem,e0,e1,e2];try rfl) rfl ?_;exact⟨⟨_,_,p9,RL,c9,0,rfl,λ_ _=>rfl,λ_=>⟨m,A,B,C0,E,rfl,nG.1.1,nG.1.2.1,by rw[bY.1],by rw[bY.1],by rw[bY.1,qK.1],by rw[bY.1,qK.1,qL.1];exact tB.1 _ sT.1 gA.1,by rw[bY.1,qL.1];exact nQ.1⟩⟩,An gY.1 gA.1 gY.1.size (by have:=nK.1;omega)⟩
end
section
open Eli
def kP (n a k:Nat):List M4:=(List.range k).map λc:Nat=>((a:Int),(0:Int),(c:Int),((n / a:Nat):Int))
def jU (n a b d0:Nat):Nat->List M4
 | 0=>[]
 | k+1=>if(a*(d0+k) - n) % b=0 then jU n a b d0 k++[((a:Int),(b:Int),(((a*(d0+k) - n) / b:Nat):Int),((d0+k:Nat):Int))]else jU n a b d0 k
def kJ (n a:Nat):Nat:=(n+a - 1) / a
def kQ (n a b:Nat):Nat:=(n+(a - b) - 1) / (a - b) - kJ n a
def kK (n a:Nat):Nat->List M4
 | 0=>[]
 | k+1=>kK n a k++jU n a (k+1) (kJ n a) (kQ n a (k+1))
def kR (n a:Nat):List M4:=if n % a=0 then kP n a (n / a)else []
def mr (n:Nat):Nat->List M4
 | 0=>[]
 | k+1=>(mr n k++kR n (k+1))++kK n (k+1) k
end
section
open Go.RowKit Eli Tryz
def MatsIn (w:World) (v:Value) (L:List M4):Prop:=∃g c,v=.slice (some ⟨g,0,none⟩) L.length c/\g<w.heap.size/\∀t,t<L.length->(w.cell? ⟨g,t*4,none⟩=some (.int .i64 (L.getD t (0,0,0,0)).1)/\w.cell? ⟨g,t*4+1,none⟩=some (.int .i64 (L.getD t (0,0,0,0)).2.1)/\w.cell? ⟨g,t*4+2,none⟩=some (.int .i64 (L.getD t (0,0,0,0)).2.2.1)/\w.cell? ⟨g,t*4+3,none⟩=some (.int .i64 (L.getD t (0,0,0,0)).2.2.2))
theorem MatsIn.keep {w w':World} {v:Value} {L:List M4} (h:MatsIn w v L) (I:Below w.heap.size w w'):MatsIn w' v L:=by
 obtain⟨g,c,e,hg,V⟩:=h;refine⟨g,c,e,mI hg I.size,λt Y=>?_⟩;obtain⟨J,M,O,U⟩:=V t Y;exact⟨(I.cell (p:=⟨g,t*4,none⟩) hg).trans J,(I.cell (p:=⟨g,t*4+1,none⟩) hg).trans M,(I.cell (p:=⟨g,t*4+2,none⟩) hg).trans O,(I.cell (p:=⟨g,t*4+3,none⟩) hg).trans U⟩
theorem QL.eqv {f g:Nat->Rat} {w:World} {v:Value} {n:Nat} (h:QL (λj=>IsQ (f j)) w v n) (e:∀j,j<n->f j=g j):QL (λj=>IsQ (g j)) w v n:=by
 rcases h with h |⟨b,o,c,J,M,O⟩
 ·exact .inl h
 ·exact .inr ⟨b,o,c,J,M,λj I=>by show QE (IsQ (g j)) w b (o+j*4);rw[<-e j I];exact O j I⟩
theorem Mu (n wt:Nat) (D:Int) (w:World) (V:Tab w) (I:Pl.check n ((wt:Int)+2) D=0) (J:cntF n wt<=72):
  Calls prog 11 #[.agg #[.int .i64 n,.int .i64 ((wt:Int)+2),.int .i64 D]] w λe w'=>(∃M,e=.returned (.tuple #[.pointer (some ⟨M,0,none⟩),.int .i64 0])/\ModR w' M n wt D (frs (Cb n wt D) (cntF n wt)) (cntF n wt) (Bk (Cb n wt D) (cntF n wt) (cntF n wt)))/\Below w.heap.size w w':=by
 obtain⟨h,h2,h3,h4,_,_⟩:=Aj I;refine(gE n wt D w V I J).mono ?_;rintro e w' ⟨⟨M,rfl,_,Z⟩,O⟩;exact⟨⟨M,rfl,I,rfl,mH (Em _ _) J,Z,λj f Y U=>mH (Qu (by omega) J Y U) (by omega),λf U=>Nt (by omega) U⟩,O⟩
end
section
open Eli
theorem R5:Pl.check ((2:Nat):Int) (((0:Nat):Int)+2) 1=0:=by decide +kernel
theorem lJ:cntF 2 0=3:=by decide +kernel
theorem Qc:frs (Cb 2 0 1) (cntF 2 0)=[1]:=by decide +kernel
theorem aC:(pts 2 (2*2)).length=3:=by decide +kernel
theorem lW:ALm 2 2 0 (-1) 2 2:=⟨by decide,by decide,by decide,rfl,rfl,by decide,by decide,by decide,0,by decide,by decide,by decide⟩
theorem lB:LiftOf 2 1 0 (-1) 1 0:=⟨by decide,by decide +kernel,by decide +kernel,by decide,by decide,by decide,by decide⟩
theorem lS:img 0 (-1) 1 0 (0,1)=(1,0):=by decide +kernel
theorem lT:img 0 (-1) 1 0 (1,0)=(0,1):=by decide +kernel
theorem lU:img 0 (-1) 2 2 (0,1)=(-1,2):=by decide +kernel
theorem lV:img 0 (-1) 2 2 (1,0)=(0,1):=by decide +kernel
theorem lX:Ag 2 0 1 (λj=>Bk (Cb 2 0 1) (cntF 2 0) (cntF 2 0) j 1) (subst (symP 0 (1 / 3) 0 (-1) 1 0) 0 2 (-(-1)) (-2) 0 (0+1)) (0,1) (-1,2)=-1:=by
 unfold symP;decide +kernel
theorem lK {γ:Nat->M4} (I:D3 2 γ):wM 2 0 1 (frs (Cb 2 0 1) (cntF 2 0)) (Bk (Cb 2 0 1) (cntF 2 0) (cntF 2 0)) γ 0 (-1) 2 2 0 0=-1:=by
 have h:=lH (n:=2) (q:=2) (wt:=0) (F:=frs (Cb 2 0 1) (cntF 2 0)) (X:=Bk (Cb 2 0 1) (cntF 2 0) (cntF 2 0)) (γ:=γ) (i:=0) (k:=0) R5 (λf J=>Nt (by omega) J) I lW (by rw[Qc];decide) (by rw[aC];decide) (A:=0) (B:=-1) (C:=1) (E:=0) (by rw[Qc,aC];exact lB);rw[<-h,Qc,aC];show Pot (Ag 2 0 1 (λj=>Bk (Cb 2 0 1) (cntF 2 0) (cntF 2 0) j 1) (subst (symP 0 (1 / 3) 0 (-1) 1 0) 0 2 (-(-1)) (-2) 0 (0+1))) (img 0 (-1) 2 2 (img 0 (-1) 1 0 (1,0))) - Pot (Ag 2 0 1 (λj=>Bk (Cb 2 0 1) (cntF 2 0) (cntF 2 0) j 1) (subst (symP 0 (1 / 3) 0 (-1) 1 0) 0 2 (-(-1)) (-2) 0 (0+1))) (img 0 (-1) 2 2 (img 0 (-1) 1 0 (0,1)))=-1;rw[lS,lT,lU,lV,Cj (x:=(-1,2)) (y:=(0,1)) (by decide) (by decide) (by decide),lX];grind
end
end Go.Proofs.YtenlbhlllgppmaaGreatDoor
