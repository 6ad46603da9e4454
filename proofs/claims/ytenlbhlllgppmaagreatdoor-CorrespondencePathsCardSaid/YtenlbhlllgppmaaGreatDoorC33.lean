/- matrix.combine for long fractions, times, Apply. -/
import Derived.Test.YtenlbhlllgppmaaGreatDoorC32
set_option linter.unusedSimpArgs false
set_option maxRecDepth 100000
set_option maxHeartbeats 8000000
namespace Go.Proofs.YtenlbhlllgppmaaGreatDoor
section
open Go.RowKit Eli Tryz
theorem Mx (s:Bool) (p:Option Addr) (n c:Nat) (t:Bool) (q:Option Addr) (m d:Nat) (x:Rat) (U:Bool) (p':Option Addr) (O I:Nat) (V:Bool) (q':Option Addr) (M J:Nat) (y:Rat) (w:World) (h:Qs w s p n c t q m d x) (E:Qs w U p' O I V q' M J y) (hx:hq x<=1000000000000) (hy:hq y<=1000000000000):
  Calls prog 39 #[.agg #[.bool s,.slice p n c,.bool t,.slice q m d],.agg #[.bool U,.slice p' O I,.bool V,.slice q' M J]] w λe w'=>F6 w' e (x+y)/\Below w.heap.size w w':=by
 have Z:=Ww s p n c x.num t q m d x.den U p' O I y.num V q' M J y.den w h.1.raw h.2.raw E.1.raw E.2.raw (by have:=h.sizes;omega) (by have:=h.sizes;omega) (by have:=E.sizes;omega) (by have:=E.sizes;omega) (Fc x) (Fc y);rw[Bj,Bj]at Z;exact Z
theorem Qt (g N cx gy oy cy fr:Nat) (F Y:Nat->Rat) (s:Bool) (p:Option Addr) (n c:Nat) (t:Bool) (q:Option Addr) (m d:Nat) (x:Rat) (w:World) (h1:QRow (λj=>IsQ (F j)) w g N N)
  (gL:gy≠g) (gF:gy<w.heap.size) (gS:∀j,j<N->QE (IsQ (Y j)) w gy (oy+j*4))
  (hx:Qs w s p n c t q m d x) (hK:hq x<=1000000000) (hF:∀j,j<N->hq (F j)<=950000000000/\hq (Y j)<=13000000000) (hN:N<=1000000) (nR:fr<=N) (hY:∀j,j<fr->Y j=0):
  Calls prog 122 #[.slice (some ⟨g,0,none⟩) N cx,.slice (some ⟨gy,oy,none⟩) N cy,.agg #[.bool s,.slice p n c,.bool t,.slice q m d],.int .i64 fr] w λe w'=>(∃v,e=.returned v)/\QRow (λj=>IsQ (F j+x*Y j)) w' g N N/\w.grownBy w' (some g)/\I32 w w':=by
 have mC:=Kh gS;have cG:=Kh gL;have HX:=Kh hx;have HF:=Kh hF;have H1:=Kh h1;have HK:=Kh hK;have hT:=Kh h1.sts.1;have oJ:=Kh gF;have mB:=Kh hY;clear h1 hx hF hK gS gL gF hY;go_enter func122,ntmps122
 go_wp2_with fail
 obtain⟨w0,gN,X0,bA⟩:=bx1 w #[.bool s,.slice p n c,.bool t,.slice q m d] 86;rw[gN];have bY:=Kh bA;have Z:=Kh X0
 have cS:=Kh (show QRow (addQ F Y x fr) w0 g N N from QRow.congr (QRow.keep (λ_=>IsQ.solid _) H1.1 bA) (λj _=>by
  unfold addQ;by_cases hj:j<fr
  ·rw[if_pos hj,mB.1 j hj];congr 1;grind
  ·rw[if_neg hj]))
 have hX:=Kh (HX.1.keep bA);obtain⟨gc,cB⟩:∃gc,w.heap.size=gc:=⟨_,rfl⟩
 have h:=Kh (show gc≠g by have:=hT.1;omega);rw[cB]at Z ⊢;have oA:=Kh cB;clear X0 bA gN H1 HX cB;go_wp2;go_loopw [8] (λi wr=>∃k:Nat,k<=N/\i=.int .i64 k/\QRow (addQ F Y x k) wr g N N/\w0.grownBy wr (some g)/\I32 w0 wr) (λi _=>N - (intOf i).toNat)
 case atStart=>exact⟨fr,nR,rfl,cS.1,Ag g (Below.refl _ _),I32.refl _⟩
 case round=>
  obtain⟨k,hk,rfl,bC,gA,eT⟩:=hrel;have aK:=Kh bC;have M:=Kh gA;have U:=Kh eT;clear bC gA eT cS;by_cases hlt:k<N
  ·obtain⟨s',p',i1,c',t',q',m',d',a0,a1,a2,a3,hx⟩:=(((mC.1 k hlt).keep (IsQ.solid _) bY.1).butR U.1 M.1 cG.1)
   have HP:=Kh (show Qs wr s' p' i1 c' t' q' m' d' (Y k)from hx);have cM:=Kh (hX.1.i32 U.1);have x0:=M.1.cell (Z.1.at_ 0 rfl) (λe=>by injection e with e;exact h.1 e);have x1:=M.1.cell (Z.1.at_ 1 rfl) (λe=>by injection e with e;exact h.1 e);have x2:=M.1.cell (Z.1.at_ 2 rfl) (λe=>by injection e with e;exact h.1 e);have x3:=M.1.cell (Z.1.at_ 3 rfl) (λe=>by injection e with e;exact h.1 e);have oP:(k:Int)<(N:Int):=by omega
   have cX:=Kh (show Cells4 wr gc 0 s p n c t q m d from⟨x0,x1,x2,x3⟩);have cF:=Kh (show Cells4 wr gy (oy+k*4) s' p' i1 c' t' q' m' d' from⟨a0,a1,a2,a3⟩);clear hx x0 x1 x2 x3;go_wp2_with fail
   refine(Lu s' p' i1 c' t' q' m' d' (Y k) wr HP.1 (by have:=(HF.1 k hlt).2;omega)).mono ?_;rintro e we ⟨rfl,J⟩;have oI:=Kh J;have E:=Kh (QRow.keep (λj=>(IsQ.solid _:Bi (addQ F Y x k j))) aK.1 J);have aD:=Kh (M.1.trans (Ag g J));have V:=Kh (U.1.trans (I32.below J));have hW:=Kh (HP.1.keep J);have hZ:=Kh (cM.1.keep J);have mA:=Kh (cX.1.keep J);have hQ:=Kh (cF.1.keep J);clear J a0 a1 a2 a3 aK M U HP cM cX cF;by_cases hz:Y k=0
   ·have h0:(!decide (Y k=0))=false:=by rw[decide_eq_true hz];rfl
    rw[h0];have nS:=Kh (show F k+x*Y k=F k by rw[hz];grind);clear hz h0;go_wp2;go_roundw
    case rel=>exact⟨k+1,by omega,by go_num,addQ.done E.1 nS.1,aD.1,V.1⟩
    case measure=>simp[intOf];omega
   ·have h0:(!decide (Y k=0))=true:=by rw[decide_eq_false hz];rfl
    rw[h0];obtain⟨x0,x1,x2,x3⟩:=mA.1;obtain⟨a0,a1,a2,a3⟩:=hQ.1;obtain⟨s5,p5,n5,c5,t5,q5,m5,d5,e0,e1,e2,e3,hy⟩:=addQ.elem E.1 hlt;have hR:=Kh (show Qs we s5 p5 n5 c5 t5 q5 m5 d5 (F k)from hy)
    have iL:=Kh (show hq (x*Y k)<=14000000000 by
     have h1:=Ce x (Y k);have h2:=HK.1;have h3:=(HF.1 k hlt).2;omega)
    have hU:=Kh (λw1 (I:Below we.heap.size we w1)=>bN s p n c t q m d x s' p' i1 c' t' q' m' d' (Y k) w1 (hZ.1.keep I) (hW.1.keep I) (by have:=HK.1;omega) (by have:=(HF.1 k hlt).2;omega));have O:=E.1;have oQ:=cG.1;have oR:=h.1;have oS:g<we.heap.size:=O.sts.1;clear hy h0 hz;go_upto_region 5 with(fail)
    refine Lg (λW=>W.cell? ⟨gc,0,none⟩=some (.bool s)/\W.cell? ⟨gc,1,none⟩=some (.slice p n c)/\W.cell? ⟨gc,2,none⟩=some (.bool t)/\W.cell? ⟨gc,3,none⟩=some (.slice q m d)/\W.cell? ⟨gy,oy+k*4,none⟩=some (.bool s')/\W.cell? ⟨gy,oy+k*4+1,none⟩=some (.slice p' i1 c')/\W.cell? ⟨gy,oy+k*4+2,none⟩=some (.bool t')/\W.cell? ⟨gy,oy+k*4+3,none⟩=some (.slice q' m' d')/\W.cell? ⟨g,k*4,none⟩=some (.bool s5)/\W.frozen? ⟨g,k*4,none⟩=false/\W.cell? ⟨g,k*4+1,none⟩=some (.slice p5 n5 c5)/\W.frozen? ⟨g,k*4+1,none⟩=false/\W.cell? ⟨g,k*4+2,none⟩=some (.bool t5)/\W.frozen? ⟨g,k*4+2,none⟩=false/\W.cell? ⟨g,k*4+3,none⟩=some (.slice q5 m5 d5)/\W.frozen? ⟨g,k*4+3,none⟩=false) (λW I=>⟨Av I x0,Av I x1,Av I x2,Av I x3,Av I a0,Av I a1,Av I a2,Av I a3,Av I e0,Ab I (by rw[e0];rfl) (O.free _ (by omega)),Av I e1,Ab I (by rw[e1];rfl) (O.free _ (by omega)),Av I e2,Ab I (by rw[e2];rfl) (O.free _ (by omega)),Av I e3,Ab I (by rw[e3];rfl) (O.free _ (by omega))⟩) (λcT hHeld0=>?_);clear x0 x1 x2 x3 a0 a1 a2 a3 e0 e1 e2 e3 O;refine Ap 0 ?_;refine Ap 1 ?_;refine Ap 2 ?_;refine Ap 3 ?_;refine Ap 4 ?_;refine Ap 5 ?_;refine Ap 6 ?_;refine Ap 7 ?_;refine Ap 8 ?_;refine Ap 9 ?_;refine Ap 10 ?_;refine Hq 11 rfl (λK hK=>?_);focus(go_simp;refine(hU.1 _ (Below.refl _ we).drew).mono ?_;rintro e w2 ⟨⟨s3,p3,n3,c3,t3,q3,m3,d3,rfl,gU⟩,eX⟩;have cA:=Kh ((Below.refl _ we).drew.trans eX:Below we.heap.size we w2);have mD:=Kh gU;clear gU eX;(first|with_reducible refine hK.out _ _ ?_ (λhHeld1=>?_) |(go_wp2_with fail;with_reducible refine hK.out _ _ ?_ (λhHeld1=>?_))))
    focus((try dsimp only);exact cT.1 _ cA.1)
    focus(clear hK K;(try simp only[Act.put,Bn,Bp,Bo]))
    refine Hq 12 rfl (λK hK=>?_);focus(go_simp;refine(Mx s5 p5 n5 c5 t5 q5 m5 d5 (F k) s3 p3 n3 c3 t3 q3 m3 d3 (x*Y k) _ (hR.1.keep cA.1) mD.1 (by have:=(HF.1 k hlt).1;omega) (by have:=iL.1;omega)).mono ?_;rintro e w4 ⟨⟨s6,p6,n6,c6,t6,q6,m6,d6,rfl,hB⟩,eY⟩;have aN:=bt cA eY;have cC:=QRow.keep (λj=>(IsQ.solid _:Bi (addQ F Y x k j))) E.1 aN.1;have cI:=Kh (addQ.put cC hlt hB);have hS:=Kh (show ∀v0 v1 v2 v3,w0.grownBy ((((w4.setCell ⟨g,k*4,none⟩ v0).setCell ⟨g,k*4+1,none⟩ v1).setCell ⟨g,k*4+2,none⟩ v2).setCell ⟨g,k*4+3,none⟩ v3) (some g)from λ_ _ _ _=>Dr aD.1 aN.1);have H4:=Kh ((V.1.trans (I32.below aN.1)).trans (I32.put4 cC.sts (k*4) (k*4+1) (k*4+2) (k*4+3) (.bool s6) (.slice p6 n6 c6) (.bool t6) (.slice q6 m6 d6) (NotInt.bool _) (NotInt.slice _ _ _) (NotInt.bool _)));clear hB eY cC;(first|with_reducible refine hK.out _ _ ?_ (λhHeld2=>?_) |(go_wp2_with fail;with_reducible refine hK.out _ _ ?_ (λhHeld2=>?_))))
    focus((try dsimp only);exact cT.1 _ aN.1)
    focus(clear hK K;(try simp only[Act.put,Bn,Bp,Bo]))
    refine Ap 13 ?_;refine Le 14 rfl (λK hK=>?_);go_simp
    refine hK.out _ _ ?_;clear hK K
    (try simp only[Act.put,Bn,Bp,Bo])
    all_goals clear E aD V
    all_goals go_wp2
    all_goals go_roundw
    all_goals first
     | exact⟨k+1,by omega,by go_num,cI.1,hS.1 _ _ _ _,H4.1⟩
     |(simp[intOf];omega)
  ·obtain rfl:k=N:=by omega
   go_wp2;go_end0;exact⟨⟨_,rfl⟩,QRow.congr aK.1 (λj hj=>by unfold addQ;rw[if_pos hj]),(Ag g bY.1).trans M.1,(I32.below bY.1).trans U.1⟩
def Ia (V:Nat->Rat) (T:Nat->Nat->Rat) (k q:Nat):Rat:=sumQ (λi=>V i*T i q) k
theorem Um (R C G:Nat) (gs:Nat->Nat) (B0:Nat) (V:Nat->Rat) (T:Nat->Nat->Rat) (v:Value) (w:World) (hG:GM T R C w G gs B0) (hv:QL (λj=>IsQ (V j)) w v R) (hR:R<=72) (hC:C<=1000) (hV:∀j,j<R->hq (V j)<=430000000) (hT:∀i q,i<R->q<C->hq (T i q)<=12100000000):
  Calls prog 70 #[v,.slice (some ⟨G,0,none⟩) R R,.int .i64 C] w λe w'=>(∃g,e=.returned (.slice (some ⟨g,0,none⟩) C C)/\w.heap.size<=g/\QRow (λq=>IsQ (Ia V T R q)) w' g C C)/\Below w.heap.size w w':=by
 obtain⟨pv,cv,rfl,gN⟩:∃p c,v=.slice p R c/\(0<R->∃I J,p=some ⟨I,J,none⟩/\I<w.heap.size/\∀j,j<R->QE (IsQ (V j)) w I (J+j*4)):=by
  rcases hv with⟨h,a,c,e⟩ |⟨g,o,cap,e,h1,h2⟩
  ·exact⟨a,c,by rw[h];exact e,λh2=>by omega⟩
  ·exact⟨_,cap,e,λ_=>⟨g,o,rfl,h1,h2⟩⟩
 have hM:=Kh (show ∀k q,k<=R->q<C->hq (Ia V T k q)<=950000000000 from λk q hk hq=>by
  have h1:=C8 (λi=>V i*T i q) 12530000000 k (λi hi=>by
   have h2:=Ce (V i) (T i q);have h3:=hV i (by omega);have h4:=hT i q (by omega) hq;omega)
  have h5:k*(12530000000+1)<=72*(12530000000+1):=Nat.mul_le_mul_right _ (by omega);unfold Ia;omega)
 have eF:=Kh gN;have HV:=Kh hV;have HT:=Kh hT;have aD:=Kh hG;clear hv gN hV hT hG;go_enter func70,ntmps70
 go_wp2_with fail
 refine(Ws C w hC).mono ?_;rintro e w1 ⟨⟨g,rfl,O,E⟩,aN⟩;have dE:=Kh (show QRow (λq=>IsQ (Ia V T 0 q)) w1 g C C from E);have cT:=Kh (aD.1.keep aN)
 have eG:=Kh (λ(h:0<R)=>(show ∃I J,pv=some ⟨I,J,none⟩/\I<g/\∀j,j<R->QE (IsQ (V j)) w1 I (J+j*4)from by
  obtain⟨I,J,e,h1,h2⟩:=eF.1 h;exact⟨I,J,e,nN h1 O,λj hj=>(h2 j hj).keep (IsQ.solid _) aN⟩))
 have bE:=Kh (show G<g/\∀i,i<R->gs i<g from⟨nN aD.1.stk.1 O,λi hi=>nN (aD.1.row i hi).sts.1 O⟩);have cS:=Kh aN;have cX:=Kh O;clear aN O E aD eF;go_wp2_with fail
 go_loopw [13] (λii wr=>∃k:Nat,k<=R/\ii=.int .i64 k/\QRow (λq=>IsQ (Ia V T k q)) wr g C C/\w1.grownBy wr (some g)/\I32 w1 wr) (λii _=>R - (intOf ii).toNat)
 case atStart=>exact⟨0,Nat.zero_le _,rfl,dE.1,Ag g (Below.refl _ _),I32.refl _⟩
 case round=>
  obtain⟨k,hk,rfl,E,gA,eX⟩:=hrel;obtain⟨we,rfl⟩:∃we:World,we=wr:=⟨_,rfl⟩
  have bY:=Kh E;have aK:=Kh gA;have bB:=Kh eX;clear E gA eX dE;by_cases hlt:k<R
  ·have nC:(k:Int)<(R:Int):=by omega
   obtain⟨I,J,hS,nB,gI⟩:=eG.1 (by omega);subst hS;have gF:=(gI k hlt).butR bB.1 aK.1 (by omega);have dC:=Kh gF;obtain⟨s0,p0,n0,c0,t0,q0,m0,d0,a0,a1,a2,a3,hx⟩:=gF;have HX:=Kh (show Qs we s0 p0 n0 c0 t0 q0 m0 d0 (V k)from hx);clear gI hx;go_wp2_with fail
   refine(Lu s0 p0 n0 c0 t0 q0 m0 d0 (V k) we HX.1 (by have:=HV.1 k hlt;omega)).mono ?_;rintro e wk ⟨rfl,M⟩;have dY:=Kh (QRow.keep (λ_=>IsQ.solid _) bY.1 M);have Z:=Kh (aK.1.trans (Ag g M));have bC:=Kh (bB.1.trans (I32.below M));have hI:=Kh (dC.1.keep (IsQ.solid _) M);clear M a0 a1 a2 a3 HX dC bY aK bB;by_cases hz:V k=0
   ·have h0:(!decide (V k=0))=false:=by rw[decide_eq_true hz];rfl
    rw[h0];have hL:=Kh (show QRow (λq=>IsQ (Ia V T (k+1) q)) wk g C C from dY.1.congr (λq _=>by unfold Ia;rw[sumQ,hz];congr 1;grind));clear hz h0;go_wp2;go_roundw
    case rel=>exact⟨k+1,by omega,by go_num,hL.1,Z.1,bC.1⟩
    case measure=>simp[intOf];omega
   ·have h0:(!decide (V k=0))=true:=by rw[decide_eq_false hz];rfl
    rw[h0];have cA:=(cT.1.row k hlt).i32 (λ_=>IsQ.solid _) bC.1 Z.1 (by have:=bE.1.2 k hlt;omega);have nA:gs k<g:=bE.1.2 k hlt;have mE:G<g:=bE.1.1;have l0:=Z.1.cell (cT.1.at_ k hlt) (λe=>by injection e with e;have e2:G=g:=e;omega);obtain⟨s0,p0,n0,c0,t0,q0,m0,d0,a0,a1,a2,a3,hx⟩:=hI.1;have HX:=Kh (show Qs wk s0 p0 n0 c0 t0 q0 m0 d0 (V k)from hx);have hE:=Kh (λW (U:Below wk.heap.size wk W)=>Qt g C C (gs k) 0 C 0 (λq=>Ia V T k q) (T k) s0 p0 n0 c0 t0 q0 m0 d0 (V k) W (dY.1.keep (λ_=>IsQ.solid _) U) (by omega) (nN cA.sts.1 U.size) (λj hj=>by rw[Nat.zero_add];exact(cA.val j hj).keep (IsQ.solid _) U) (HX.1.keep U) (by have:=HV.1 k hlt;omega) (λj hj=>⟨hM.1 k j hk hj,by have:=HT.1 k j hlt hj;omega⟩) (by omega) (Nat.zero_le _) (λj hj=>absurd hj (Nat.not_lt_zero _)));clear hx cA hz h0;go_upto_region 6 with(fail)
    refine Lg (λW=>W.cell? ⟨G,k,none⟩=some (.slice (some ⟨gs k,0,none⟩) C C)/\W.cell? ⟨I,J+k*4,none⟩=some (.bool s0)/\W.cell? ⟨I,J+k*4+1,none⟩=some (.slice p0 n0 c0)/\W.cell? ⟨I,J+k*4+2,none⟩=some (.bool t0)/\W.cell? ⟨I,J+k*4+3,none⟩=some (.slice q0 m0 d0)) (λW U=>⟨Av U l0,Av U a0,Av U a1,Av U a2,Av U a3⟩) (λmB hHeld0=>?_);refine Ap 0 ?_;refine Ap 1 ?_;refine Ap 2 ?_;refine Ap 3 ?_;refine Ap 4 ?_;refine Ap 5 ?_;refine Ap 6 ?_;refine Ap 7 ?_;refine Ap 8 ?_;refine Le 9 rfl (λK hK=>?_);focus(go_simp;refine(hE.1 _ (Below.refl _ wk).drew).mono ?_;rintro e w8 ⟨⟨v8,rfl⟩,gL,eY,aX⟩;have hJ:=Kh gL;have hH:=Kh ((Ag g (Below.refl _ wk).drew).trans eY);have cM:=Kh ((I32.below (Below.refl _ wk).drew).trans aX);clear gL eY aX;(first|with_reducible refine hK.out _ _ ?_ |(go_wp2_with fail;with_reducible refine hK.out _ _ ?_)))
    clear hK K
    (try simp only[Act.put,Bn,Bp,Bo])
    go_wp2;go_roundw
    case rel=>exact⟨k+1,by omega,by go_num,hJ.1,Z.1.trans hH.1,bC.1.trans cM.1⟩
    case measure=>simp[intOf];omega
  ·obtain rfl:k=R:=by omega
   go_wp2;go_ret;exact⟨⟨g,rfl,cX.1,bY.1⟩,Aq cS.1 aK.1 cS.1.size cX.1⟩
theorem Ua (R C:Nat) (U:Option Addr) (M:Nat) (V:Nat->Rat) (T:Nat->Nat->Rat) (v:Value) (w:World) (hA:QL (λj=>IsQ (T (j / C) (j % C))) w (.slice U (R*C) M) (R*C)) (hv:QL (λj=>IsQ (V j)) w v R) (hR:R<=72) (hC:C<=1000) (hV:∀j,j<R->hq (V j)<=430000000) (hT:∀i q,i<R->q<C->hq (T i q)<=12100000000):
  Calls prog 26 #[v,.agg #[.int .i64 R,.int .i64 C,.slice U (R*C) M]] w λe w'=>(∃g,e=.returned (.tuple #[.slice (some ⟨g,0,none⟩) C C,.int .i64 0])/\w.heap.size<=g/\QRow (λq=>IsQ (Ia V T R q)) w' g C C)/\Below w.heap.size w w':=by
 obtain⟨pv,cv,rfl⟩:∃p c,v=.slice p R c:=by
  rcases hv with⟨h,a,c,e⟩ |⟨g,o,cap,e,_⟩
  ·exact⟨a,c,by rw[h];exact e⟩
  ·exact⟨_,cap,e⟩
 obtain⟨RC,E⟩:∃x,R*C=x:=⟨_,rfl⟩
 rw[E]at hA ⊢;have bY:=Kh (λW=>aZ R C RC U M W (by omega) (by omega) E)
 have dE:=Kh (λW (hb:Below w.heap.size w W)=>(by
  have hX:∀i q,q<C->T i q=(λj=>T (j / C) (j % C)) (i*C+q):=λi q hq=>by
   dsimp only;rw[show(i*C+q) / C=i by rw[Nat.mul_comm,Nat.mul_add_div (by omega),Nat.div_eq_of_lt hq,Nat.add_zero],show(i*C+q) % C=q by rw[Nat.mul_comm,Nat.mul_add_mod,Nat.mod_eq_of_lt hq]]
  rcases hA with⟨h,_⟩ |⟨gA,oA,cap,e,hg,hq⟩
  ·exact Mv R C RC 0 0 M U (λj=>T (j / C) (j % C)) T W (λh2=>by omega) (λj hj=>by omega) E (by omega) (by omega) (λj hj=>by omega) hX
  ·injection e with e1 e2 e3
   exact Mv R C RC gA oA M U (λj=>T (j / C) (j % C)) T W (λ_=>⟨e1,nN hg hb.size⟩) (λj hj=>(hq j hj).keep (IsQ.solid _) hb) E (by omega) (by omega) (λj hj=>by
    have eX:0<C:=by
     rcases Nat.eq_zero_or_pos C with h|h
     ·rw[h,Nat.mul_zero]at E;omega
     ·exact h
    exact nM (hT (j / C) (j % C) (Nat.div_lt_of_lt_mul (by rw[Nat.mul_comm,E];exact hj)) (Nat.mod_lt _ eX)) (by decide)) hX:Calls prog 71 #[.agg #[.int .i64 R,.int .i64 C,.slice U RC M]] W λe w'=>(∃G gs,e=.returned (.slice (some ⟨G,0,none⟩) R R)/\GM T R C w' G gs W.heap.size)/\Below W.heap.size W w'))
 have eG:=Kh hV;have dY:=Kh hT;have HV:=Kh hv;clear hA hV hT hv E;go_enter func26,ntmps26
 go_wp2_with fail
 obtain⟨w0,cS,X0,cC⟩:=bx1 w #[.int .i64 R,.int .i64 C,.slice U RC M] 32;rw[cS];obtain⟨gb,aD⟩:∃x,w.heap.size=x:=⟨_,rfl⟩
 rw[aD]at X0;try rw[aD]
 have cB:=Kh X0;have bA:=Kh cC;clear cS X0 cC aD;refine(bY.1 w0).mono ?_;rintro e w2 ⟨rfl,Z⟩;have X2:=bk cB Z;have I:=bt bA Z;have m0:=X2.at_ 0 rfl;have m1:=X2.at_ 1 rfl;have m2:=X2.at_ 2 rfl;have hD:((R:Int) !=(R:Int))=false:=by simp
 have eF:=Kh (HV.1.keep (λ_=>IsQ.solid _) I.1);clear Z X2 cB bA bY HV;go_upto_region 3 with(fail)
 refine Lg (λW=>W.cell? ⟨gb,0,none⟩=some (.int .i64 R)/\W.cell? ⟨gb,1,none⟩=some (.int .i64 C)/\W.cell? ⟨gb,2,none⟩=some (.slice U RC M)) (λW hb=>⟨Av hb m0,Av hb m1,Av hb m2⟩) (λbE hHeld0=>?_);refine Ap 0 ?_;refine Ap 1 ?_;refine Ap 3 ?_;refine Ap 4 ?_;refine Hq 2 rfl (λK hK=>?_);focus(go_simp;refine(dE.1 _ (I.1.trans ((Below.refl _ w2).drew.mono I.1.size))).mono ?_;rintro e w3 ⟨⟨G,gs,rfl,cI⟩,cD⟩;have J:=Kh ((Below.refl _ w2).drew.trans cD:Below w2.heap.size w2 w3);have dC:=Kh cI;clear cI cD;(first|with_reducible refine hK.out _ _ ?_ (λhHeld1=>?_) |(go_wp2_with fail;with_reducible refine hK.out _ _ ?_ (λhHeld1=>?_))))
 focus((try dsimp only);exact bE.1 _ J.1)
 focus(clear hK K;(try simp only[Act.put,Bn,Bp,Bo]))
 refine Hq 5 rfl (λK hK=>?_);focus(go_simp;refine(Um R C G gs _ V T (.slice pv R cv) w3 dC.1 (eF.1.keep (λ_=>IsQ.solid _) J.1) hR hC eG.1 dY.1).mono ?_;rintro e w4 ⟨⟨g,rfl,cG,O⟩,cF⟩;have bB:=Kh (J.1.trans (cF.mono J.1.size):Below w2.heap.size w2 w4);have bC:=Kh O;have cX:=Kh (nM J.1.size cG);clear cF O cG;(first|with_reducible refine hK.out _ _ ?_ (λhHeld2=>?_) |(go_wp2_with fail;with_reducible refine hK.out _ _ ?_ (λhHeld2=>?_))))
 focus((try dsimp only);exact bE.1 _ bB.1)
 focus(clear hK K;(try simp only[Act.put,Bn,Bp,Bo]))
 refine Ap 6 ?_;refine Le 7 rfl (λK hK=>?_);go_simp
 refine hK.out _ _ ?_;clear hK K
 (try simp only[Act.put,Bn,Bp,Bo])
 go_wp2;go_ret2
 exact⟨⟨g,rfl,nM I.1.size cX.1,bC.1⟩,I.1.trans (bB.1.mono I.1.size)⟩
end
section
open Eli
structure ALm (n q:Nat) (A B C E:Int):Prop where
 hq:0<q
 hn:0<n / q
 dv:n=q*(n / q)
 c:C=n
 e:E=q
 det:A*E - B*C=q
 bA:0<=A/\A<=n
 bB:-1<=B/\B<=q
 x:∃x:Int,A=q*x/\0<=x/\x<(n / q:Nat)
theorem ALm.one {n q:Nat} {A B C E:Int} (h:ALm n q A B C E):∃x:Int,A=q*x/\q*x - B*(n / q:Nat)=1:=by
 obtain⟨x,J,_,_⟩:=h.x;refine⟨x,J,?_⟩;have I:=h.det;have M:(n:Int)=q*(n / q:Nat):=by have:=congrArg (λk:Nat=>(k:Int)) h.dv;simpa using this
 rw[h.c,h.e,J,M]at I;have O:(q:Int)*(q*x - B*(n / q:Nat))=q*1:=by rw[Int.mul_one,<-I];grind
 exact Int.eq_of_mul_eq_mul_left (by have:=h.hq;omega) O
theorem ALm.uniq {n q:Nat} {A B C E A' B' U V:Int} (h:ALm n q A B C E) (I:ALm n q A' B' U V):A=A'/\B=B'/\C=U/\E=V:=by
 obtain⟨x,hx,Z⟩:=h.one;obtain⟨y,hy,e2⟩:=I.one;obtain⟨x',J,x0,x1⟩:=h.x;obtain⟨y',O,y0,y1⟩:=I.x;have hq:=h.hq;obtain rfl:x=x':=Int.eq_of_mul_eq_mul_left (show(q:Int)≠0 by omega) (hx.symm.trans J);obtain rfl:y=y':=Int.eq_of_mul_eq_mul_left (show(q:Int)≠0 by omega) (hy.symm.trans O);obtain⟨M,hM⟩:∃M:Int,((n / q:Nat):Int)=M:=⟨_,rfl⟩
 rw[hM]at Z e2 x1 y1;have cA:0<M:=by have:=h.hn;omega
 have h3:x - y=M*(B*(y) - B'*x):=by
  have f1:x=x*((q:Int)*y - B'*M):=by rw[e2,Int.mul_one]
  have f2:y=y*((q:Int)*x - B*M):=by rw[Z,Int.mul_one]
  grind
 have h4:M∣x - y:=⟨_,h3⟩
 have h5:x=y:=by
  obtain⟨k,hk⟩:=h4;have h6:-M<M*k/\M*k<M:=by omega
  have h7:k=0:=by
   rcases Int.lt_trichotomy k 0 with h|h|h
   ·have:M*k<=M*(-1):=Int.mul_le_mul_of_nonneg_left (by omega) (by omega)
    omega
   ·exact h
   ·have:M*1<=M*k:=Int.mul_le_mul_of_nonneg_left (by omega) (by omega)
    omega
  rw[h7,Int.mul_zero]at hk;omega
 subst h5;have h6:B=B':=Int.eq_of_mul_eq_mul_right (show M≠0 by omega) (by omega);exact⟨by rw[hx,hy],h6,by rw[h.c,I.c],by rw[h.e,I.e]⟩
theorem Sf {n wt:Nat} {D:Int} {x:Nat->Rat} {A B C E a b c e:Int} (hA:A*E - B*C≠0) (I:a*e - b*c≠0) (P:Nat->Rat) {u v:Int×Int} (V:Cu u) (Z:Cu v):
  clG n wt D x (A*a+B*c) (A*b+B*e) (C*a+E*c) (C*b+E*e) P u v=clG n wt D x A B C E (subst P wt e (-b) (-c) a (wt+1)) (img a b c e u) (img a b c e v):=by
 unfold clG;rw[Lj,Gz I hA V,Gz I hA Z];have J:e*E+-b * -C=C*b+E*e:=by grind
 have M:e * -B+-b*A=-(A*b+B*e):=by grind
 have O:-c*E+a * -C=-(C*a+E*c):=by grind
 have U:-c * -B+a*A=A*a+B*c:=by grind
 rw[J,M,O,U]
structure CoM (n t a b d:Nat):Prop where
 a0:1<=a
 ad:a*d=t
 bd:b<d
 cop:Nat.gcd a n=1
theorem M7 {n t:Nat} {chi:Nat->Int} (_ht:0<t) {x:Pl.Cos}:∀k,k<=t->(x∈Pl.cosAt chi n t k↔x.1.1<=k/\CoM n t x.1.1 x.1.2.1 x.1.2.2/\x.2=chi x.1.1):=by
 intro k;induction k with
 | zero=>
  intro _;constructor
  ·intro h;cases h
  ·rintro⟨J,E,_⟩
   have:=E.a0;omega
 | succ k ih=>
  intro U;rw[Pl.cosAt,List.mem_append,ih (by omega)];constructor
  ·rintro(⟨J,E,I⟩|h)
   ·exact⟨by omega,E,I⟩
   ·split at h
    ·rename_i hc
     unfold Pl.cosRow at h;rw[List.mem_map]at h;obtain⟨j,O,rfl⟩:=h;rw[List.mem_range]at O;exact⟨nL _,⟨by dsimp only;omega,by dsimp only;exact Nat.mul_div_cancel' (Nat.dvd_of_mod_eq_zero hc.1),O,hc.2⟩,rfl⟩
    ·cases h
  ·rintro⟨J,E,I⟩
   by_cases h:x.1.1=k+1
   ·right
    have M:(k+1)*x.1.2.2=t:=by rw[<-h];exact E.ad
    rw[if_pos ⟨by rw[<-M];exact Nat.mul_mod_right _ _,by rw[<-h];exact E.cop⟩];unfold Pl.cosRow;rw[List.mem_map];have hq:t / (k+1)=x.1.2.2:=by rw[<-M];exact Nat.mul_div_cancel_left _ (Nat.succ_pos k)
    refine⟨x.1.2.1,by rw[List.mem_range,hq];exact E.bd,?_⟩;rw[hq,<-h,<-I]
   ·left
    exact⟨by omega,E,I⟩
theorem Uo {n t:Nat} {chi:Nat->Int} (J:0<t):∀k,k<=t->(Pl.cosAt chi n t k).Nodup:=by
 intro k;induction k with
 | zero=>intro _;exact List.nodup_nil
 | succ k ih=>
  intro O;rw[Pl.cosAt,List.nodup_append];refine⟨ih (by omega),?_,?_⟩
  ·split
   ·unfold Pl.cosRow
    refine List.pairwise_map.2 (List.nodup_range.imp (λh e=>h ?_));injection e with I
    injection I with _ h4
    injection h4
   ·exact List.nodup_nil
  ·intro x M y E e
   rw[M7 J k (by omega)]at M
   have I:y.1.1=k+1:=by
    split at E
    ·unfold Pl.cosRow at E
     rw[List.mem_map]at E;obtain⟨j,_,rfl⟩:=E;rfl
    ·cases E
   rw[<-e]at I;omega
theorem CoM.uniq {n t a b d I J E:Nat} {p q r s:Int} (h:CoM n t a b d) (O:CoM n t I J E) (U:p*s - q*r=1) (e1:(a:Int)=p*I) (e2:(b:Int)=p*J+q*E) (V:0=r*I) (e4:(d:Int)=r*J+s*E):a=I/\b=J/\d=E:=by
 have h1:=h.a0;have h2:=O.a0
 have hr:r=0:=by
  rcases Int.mul_eq_zero.1 V.symm with h|h
  ·exact h
  ·omega
 subst hr;rw[Int.mul_zero,Int.sub_zero]at U
 have hp:0<p:=by
  rcases Int.lt_or_le 0 p with h|h
  ·exact h
  ·have:p*(I:Int)<=0:=Int.mul_nonpos_of_nonpos_of_nonneg h (by omega)
   omega
 have M:p=1:=Int.eq_one_of_dvd_one (by omega) ⟨s,U.symm⟩;subst M;have hs:s=1:=by omega
 subst hs;have Z:a=I:=by omega
 have ed:d=E:=by omega
 refine⟨Z,?_,ed⟩;have b1:=h.bd;have b2:=O.bd
 have hq:q=0:=by
  rcases Int.lt_trichotomy q 0 with hq|hq|hq
  ·have:q*(E:Int)<=-1*E:=Int.mul_le_mul_of_nonneg_right (by omega) (by omega)
   omega
  ·exact hq
  ·have:1*(E:Int)<=q*E:=Int.mul_le_mul_of_nonneg_right (by omega) (by omega)
   omega
 subst hq;omega
theorem lK (u v:Int):∃x y:Int,u*x+v*y=(Int.gcd u v:Int):=by
 obtain⟨x,y,h⟩:=lE u.natAbs v.natAbs
 have E:∀z w:Int,∃w':Int,(z.natAbs:Int)*w=z*w':=λz w=>by
  rcases Int.natAbs_eq z with e|e
  ·exact⟨w,by rw[<-e]⟩
  ·exact⟨-w,by rw[show((z.natAbs:Nat):Int)=-z by omega];grind⟩
 obtain⟨x',I⟩:=E u x;obtain⟨y',J⟩:=E v y;exact⟨x',y',by rw[<-I,<-J,h];rfl⟩
theorem CoM.turn {n t a b d:Nat} {α β Z I:Int} (_hn:0<n) (ht:0<t) (h:CoM n t a b d) (hg:G0 n α β Z I):
  ∃(a' b' d':Nat) (p q r s:Int),CoM n t a' b' d'/\G0 n p q r s/\a*α+b*Z=p*a'/\a*β+b*I=p*b'+q*d'/\d*Z=r*a'/\d*I=r*b'+s*d':=by
 have cA:=hg.det;have h1:=h.a0;have gN:0<d:=by have:=h.bd;omega
 have cX:(a:Int)*d=t:=by rw[<-h.ad];push_cast;rfl
 obtain⟨u,hu⟩:∃u:Int,a*α+b*Z=u:=⟨_,rfl⟩
 obtain⟨v,hv⟩:∃v:Int,d*Z=v:=⟨_,rfl⟩
 obtain⟨g,J⟩:∃g,Int.gcd u v=g:=⟨_,rfl⟩
 have aX:u*(d*I) - (a*β+b*I)*v=t:=by rw[<-hu,<-hv,<-cX];grind
 have dC:0<g:=by
  rcases Nat.eq_zero_or_pos g with h0|h0
  ·rw[h0]at J
   obtain⟨k1,k2⟩:=Int.gcd_eq_zero_iff.1 J;rw[k1,k2]at aX;simp at aX;omega
  ·exact h0
 obtain⟨u',O⟩:(g:Int)∣u:=by rw[<-J];exact Int.gcd_dvd_left ..
 obtain⟨V,U⟩:(g:Int)∣v:=by rw[<-J];exact Int.gcd_dvd_right ..
 obtain⟨x,y,cF⟩:=lK u v;rw[J,O,U]at cF
 have eY:u'*x+V*y=1:=by
  have:(g:Int)*(u'*x+V*y)=g*1:=by rw[Int.mul_one,<-cF];grind
  exact Int.eq_of_mul_eq_mul_left (by omega) this
 have aD:Nat.gcd g n=1:=by
  obtain⟨l,hl⟩:∃l,Nat.gcd g n=l:=⟨_,rfl⟩
  have l1:(l:Int)∣g:=by rw[<-hl];exact Int.natCast_dvd_natCast.2 (Nat.gcd_dvd_left ..)
  have l2:(l:Int)∣n:=by rw[<-hl];exact Int.natCast_dvd_natCast.2 (Nat.gcd_dvd_right ..)
  have l3:(l:Int)∣Z:=Int.dvd_trans l2 hg.low
  have l4:(l:Int)∣a*α:=by
   have e:(a:Int)*α=g*u' - b*Z:=by rw[<-O,<-hu];grind
   rw[e];exact Int.dvd_sub (Int.dvd_trans l1 (Int.dvd_mul_right _ _)) (Int.dvd_trans l3 (Int.dvd_mul_left _ _))
  have l5:(l:Int)∣a:=by
   have e:(a:Int)=a*α*I - a*β*Z:=by
    have:(a:Int)*(α*I - β*Z)=a*1:=by rw[cA]
    grind
   rw[e];exact Int.dvd_sub (Int.dvd_trans l4 (Int.dvd_mul_right _ _)) (Int.dvd_trans l3 (Int.dvd_mul_left _ _))
  have l6:l∣Nat.gcd a n:=Nat.dvd_gcd (Int.natCast_dvd_natCast.1 l5) (Int.natCast_dvd_natCast.1 l2);rw[h.cop]at l6;rw[hl];exact Nat.dvd_one.1 l6
 obtain⟨E,aN⟩:∃E:Int,-V*(a*β+b*I)+u'*(d*I)=E:=⟨_,rfl⟩
 obtain⟨M,bE⟩:∃M:Int,x*(a*β+b*I)+y*(d*I)=M:=⟨_,rfl⟩
 have dE:(g:Int)*E=t:=by rw[<-aN,<-aX,O,U];grind
 have cT:0<E:=by
  rcases Int.lt_or_le 0 E with h|h
  ·exact h
  ·have:(g:Int)*E<=0:=Int.mul_nonpos_of_nonneg_of_nonpos (by omega) h
   omega
 have cD:=Int.mul_ediv_add_emod M E;have cC:=Int.emod_nonneg M (show E≠0 by omega);have eF:=Int.emod_lt_of_pos M cT;obtain⟨m,hm⟩:∃m,M / E=m:=⟨_,rfl⟩
 obtain⟨bb,bY⟩:∃bb,M % E=bb:=⟨_,rfl⟩
 rw[hm,bY]at cD;rw[bY]at cC eF;have tD:((E.toNat:Nat):Int)=E:=Int.toNat_of_nonneg (by omega);have tb:((bb.toNat:Nat):Int)=bb:=Int.toNat_of_nonneg cC
 have cB:(n:Int)∣V:=by
  have q1:(n:Int)∣g*V:=by rw[<-U,<-hv];exact Int.dvd_trans hg.low (Int.dvd_mul_left _ _)
  have q2:n∣g*V.natAbs:=by
   have h2:=Int.natAbs_dvd_natAbs.2 q1;rw[Int.natAbs_mul,Int.natAbs_natCast,Int.natAbs_natCast]at h2;exact h2
  exact Int.ofNat_dvd_left.2 (Nat.Coprime.dvd_of_dvd_mul_left (by rw[Nat.Coprime,Nat.gcd_comm];exact aD) q2)
 refine⟨g,bb.toNat,E.toNat,u',-y+u'*m,V,x+V*m,⟨dC,?_,by omega,aD⟩,⟨?_,cB⟩,?_,?_,?_,?_⟩
 ·have:((g*E.toNat:Nat):Int)=t:=by push_cast;rw[tD];exact dE
  exact_mod_cast this
 ·grind
 ·rw[hu,O];grind
 ·rw[tb,tD]
  have:(a:Int)*β+b*I=u'*M - y*E:=by rw[<-bE,<-aN];grind
  rw[this];grind
 ·rw[hv,U];grind
 ·rw[tb,tD]
  have:(d:Int)*I=V*M+x*E:=by rw[<-bE,<-aN];grind
  rw[this];grind
theorem CoM.kro {n t a b d I b' d' s E:Nat} {k D α β δ J p q r z:Int} (bA:Pl.check n k D=0) (ht:t<=128) (h:CoM n t a b d) (h':CoM n t I b' d') (hg:G0 n α β δ J) (V:G0 n p q r z) (h1:a*α+b*δ=p*I)
  (s1:1<=s) (s2:s<=n) (s3:pun n s=true) (s4:(s:Int) % n=J % n) (t1:1<=E) (t2:E<=n) (t3:pun n E=true) (t4:(E:Int) % n=z % n):
  Pl.kroP D a*Pl.kroP D E=Pl.kroP D s*Pl.kroP D I:=by
 obtain⟨⟨b1,b2⟩,_,⟨b3,b4⟩,b5,b6⟩:=Pl.check_ok bA
 have Z:∀{x y:Nat},x*y=t->1<=x->y≠0->x<=128:=λ{x y} e hx hy=>by
  have:x*1<=x*y:=Nat.mul_le_mul_left _ (by omega);omega
 have a1:=h.a0;have a2:=h'.a0;have a3:=Z h.ad a1 (by have:=h.bd;omega);have a4:=Z h'.ad a2 (by have:=h'.bd;omega);have c1:=h.cop;have c2:=h'.cop;have c3:Nat.gcd s n=1:=by simpa [pun] using s3
 have c4:Nat.gcd E n=1:=by simpa [pun] using t3
 have bY:(n:Int)∣a*E - s*I:=by
  obtain⟨e1,bC⟩:=hg.low;obtain⟨e2,bE⟩:=V.low;have e3:(n:Int)∣s - J:=Int.dvd_of_emod_eq_zero (Int.emod_eq_emod_iff_emod_sub_eq_zero.1 s4);have e4:(n:Int)∣E - z:=Int.dvd_of_emod_eq_zero (Int.emod_eq_emod_iff_emod_sub_eq_zero.1 t4);have O:=hg.det;have U:=V.det
  have e5:(n:Int)∣a*z - J*I:=by
   refine⟨-(z*J*b*e1)+I*J*q*e2*1 - z*a*β*e1,?_⟩;rw[bC]at h1 O;rw[bE]at U;have f1:(a:Int)*z=a*z*(α*J - β*(n*e1)):=by rw[O,Int.mul_one]
   have f2:J*(I:Int)=J*I*(p*z - q*(n*e2)):=by rw[U,Int.mul_one]
   have f3:J*z*(a*α+b*(n*e1))=J*z*(p*I):=by rw[h1]
   rw[f1,f2];grind
  have e6:(a:Int)*E - s*I=a*(E - z) - (s - J)*I+(a*z - J*I):=by grind
  rw[e6];exact Int.dvd_add (Int.dvd_sub (Int.dvd_trans e4 (Int.dvd_mul_left _ _)) (Int.dvd_trans e3 (Int.dvd_mul_right _ _))) e5
 have hm:a*E % n=s*I % n:=by
  have h5:=Int.emod_eq_emod_iff_emod_sub_eq_zero.2 (Int.emod_eq_zero_of_dvd bY)
  exact_mod_cast h5
 have bB:Nat.gcd (a*E) n=1:=Nat.Coprime.mul_left c1 c4;obtain⟨w,hw⟩:∃w,(if a*E % n=0 then n else a*E % n)=w:=⟨_,rfl⟩
 have M:1<=w/\w<=n/\w % n=a*E % n:=by
  have hlt:=Nat.mod_lt (a*E) (show 0<n by omega);rw[<-hw];split
  ·rename_i h0
   exact⟨by omega,nL _,by rw[Nat.mod_self,h0]⟩
  ·exact⟨by omega,by omega,Nat.mod_mod _ _⟩
 have aD:Nat.gcd w n=1:=by
  rw[Nat.gcd_comm,Nat.gcd_rec,M.2.2,<-Nat.gcd_rec,Nat.gcd_comm];exact bB
 have k1:=(Pl.kro_mul (N:=n) (D:=D) (a:=a) (b:=E) (c:=w) (by omega) b3 b4 b5 b6 (by omega) a3 (by omega) (by omega) (by omega) (by omega) c1 c4 aD M.2.2.symm).1;have k2:=(Pl.kro_mul (N:=n) (D:=D) (a:=s) (b:=I) (c:=w) (by omega) b3 b4 b5 b6 (by omega) (by omega) (by omega) a4 (by omega) (by omega) c3 c2 aD (by rw[<-hm];exact M.2.2.symm)).1;rw[<-k1,<-k2]
def Turned (α β δ ε:Int) (x y:Nat×Nat×Nat):Prop:=∃p q r s:Int,p*s - q*r=1/\x.1*α+x.2.1*δ=p*y.1/\x.1*β+x.2.1*ε=p*y.2.1+q*y.2.2/\x.2.2*δ=r*y.1/\x.2.2*ε=r*y.2.1+s*y.2.2
theorem Oa {p q r s x y u v:Int} (k:p*s - q*r=1) (E:x=p*u+q*v) (I:y=r*u+s*v):u=s*x - q*y/\v=-r*x+p*y:=by
 subst E I;have J:s*(p*u+q*v) - q*(r*u+s*v)=u*(p*s - q*r):=by clear k;grind
 have M:-r*(p*u+q*v)+p*(r*u+s*v)=v*(p*s - q*r):=by clear k;grind
 rw[J,M,k,Int.mul_one,Int.mul_one];exact⟨rfl,rfl⟩
theorem Te {J E I M x y x' y':Int} (k:J*M - E*I=1) (O:x*J+y*I=x'*J+y'*I) (U:x*E+y*M=x'*E+y'*M):x=x'/\y=y':=by
 have k':J*M - I*E=1:=by rw[<-k,Int.mul_comm I E]
 obtain⟨V,Z⟩:=Oa (x:=x*J+y*I) (y:=x*E+y*M) (u:=x) (v:=y) k' (by clear k k' O U;grind) (by clear k k' O U;grind);obtain⟨h,b2⟩:=Oa (x:=x'*J+y'*I) (y:=x'*E+y'*M) (u:=x') (v:=y') k' (by clear k k' O U V Z;grind) (by clear k k' O U V Z;grind);rw[O,U]at V Z;exact⟨V.trans h.symm,Z.trans b2.symm⟩
theorem cV {p q p' q' E I A B D x y U W:Int} (u1:U=I*(A*x+B*y) - q'*(D*y)) (u2:W=-E*(A*x+B*y)+p'*(D*y)):p*U+q*W=(p*I - q*E)*A*x+((p*I - q*E)*B+(-(p*q')+q*p')*D)*y:=by
 rw[u1,u2];clear u1 u2;grind
theorem Turned.left {n t a b d O U V a2 b2 d2:Nat} {Z β M ε:Int} (E:Z*ε - β*M=1) (h:Turned Z β M ε (a,b,d) (a2,b2,d2)) (h':Turned Z β M ε (O,U,V) (a2,b2,d2)) (hc:CoM n t a b d) (cF:CoM n t O U V):a=O/\b=U/\d=V:=by
 obtain⟨p,q,r,s,k,e1,e2,e3,e4⟩:=h;obtain⟨p',q',I,J,k',f1,f2,f3,f4⟩:=h';dsimp only at e1 e2 e3 e4 f1 f2 f3 f4;obtain⟨u1,u2⟩:=Oa (x:=O*Z+U*M) (y:=V*M) (u:=(a2:Int)) (v:=0) k' (by rw[f1,Int.mul_zero,Int.add_zero]) (by rw[f3,Int.mul_zero,Int.add_zero]);obtain⟨v1,v2⟩:=Oa (u:=(b2:Int)) (v:=(d2:Int)) k' f2 f4;have m1:=cV (p:=p) (q:=q) u1 u2;have m2:=cV (p:=p) (q:=q) v1 v2;have m3:=cV (p:=r) (q:=s) u1 u2;have m4:=cV (p:=r) (q:=s) v1 v2;rw[Int.mul_zero,Int.add_zero]at m1 m3;obtain⟨x1,x2⟩:=Te E (e1.trans m1) (e2.trans m2);obtain⟨x3,x4⟩:=Te (x:=0) (y:=(d:Int)) (x':=(r*J - s*I)*O) (y':=(r*J - s*I)*U+(-(r*q')+s*p')*V) E ((show(0:Int)*Z+d*M=d*M by rw[Int.zero_mul,Int.zero_add]).trans (e3.trans m3)) ((show(0:Int)*β+d*ε=d*ε by rw[Int.zero_mul,Int.zero_add]).trans (e4.trans m4));refine hc.uniq cF (p:=p*J - q*I) (q:=-(p*q')+q*p') (r:=r*J - s*I) (s:=-(r*q')+s*p') ?_ x1 x2 x3 x4;have:(p*J - q*I)*(-(r*q')+s*p') - (-(p*q')+q*p')*(r*J - s*I)=(p*s - q*r)*(p'*J - q'*I):=by clear k k' e1 e2 e3 e4 f1 f2 f3 f4 u1 u2 v1 v2 m1 m2 m3 m4 x1 x2 x3 x4;grind
 rw[this,k,k'];rfl
theorem Turned.right {n t a b d J M O a2 b2 d2:Nat} {α β δ ε:Int} (h:Turned α β δ ε (a2,b2,d2) (a,b,d)) (h':Turned α β δ ε (a2,b2,d2) (J,M,O)) (hc:CoM n t a b d) (bB:CoM n t J M O):a=J/\b=M/\d=O:=by
 obtain⟨p,q,r,s,k,e1,e2,e3,e4⟩:=h;obtain⟨p',q',E,I,k',U,V,Z,f4⟩:=h';dsimp only at e1 e2 e3 e4 U V Z f4;rw[e1]at U;rw[e2]at V;rw[e3]at Z;rw[e4]at f4;obtain⟨u1,u2⟩:=Oa (u:=(a:Int)) (v:=0) k (x:=p'*(J:Int)) (y:=E*(J:Int)) (by rw[<-U,Int.mul_zero,Int.add_zero]) (by rw[<-Z,Int.mul_zero,Int.add_zero]);obtain⟨v1,v2⟩:=Oa (u:=(b:Int)) (v:=(d:Int)) k (x:=p'*(M:Int)+q'*O) (y:=E*(M:Int)+I*O) V.symm f4.symm;clear e1 e2 e3 e4 U V Z f4;refine hc.uniq bB (p:=s*p' - q*E) (q:=s*q' - q*I) (r:=-(r*p')+p*E) (s:=-(r*q')+p*I) ?_ ?_ ?_ ?_ ?_
 ·have:(s*p' - q*E)*(-(r*q')+p*I) - (s*q' - q*I)*(-(r*p')+p*E)=(p*s - q*r)*(p'*I - q'*E):=by clear k k' u1 u2 v1 v2;grind
  rw[this,k,k'];rfl
 ·rw[u1];clear u1 u2 v1 v2 k k';grind
 ·rw[v1];clear u1 u2 v1 v2 k k';grind
 ·rw[u2];clear u1 u2 v1 v2 k k';grind
 ·rw[v2];clear u1 u2 v1 v2 k k';grind
theorem Vt {x y:Nat×Nat×Nat} {a b c d p q r z:Int} (U:a*d - b*c=1) (V:p*z - q*r=1)
  (I:(y.1:Int)=z*(x.1*d+x.2.1 * -c) - q*(x.2.2 * -c)) (J:0=-r*(x.1*d+x.2.1 * -c)+p*(x.2.2 * -c)) (M:(y.2.1:Int)=z*(x.1 * -b+x.2.1*a) - q*(x.2.2*a)) (O:(y.2.2:Int)=-r*(x.1 * -b+x.2.1*a)+p*(x.2.2*a)):Turned a b c d y x:=by
 have E:∀w:Int,w*(a*d - b*c)=w:=λw=>by rw[U,Int.mul_one]
 refine⟨z,-q,-r,p,by rw[<-V];clear U V I J M O E;grind,?_,?_,?_,?_⟩
 ·rw[I,M]
  have h:=E (z*x.1);clear U V I J M O E;grind
 ·rw[I,M]
  have h:=E (z*x.2.1 - q*x.2.2);clear U V I J M O E;grind
 ·have Z:(y.2.2:Int)*c=0*a+y.2.2*c:=by rw[Int.zero_mul,Int.zero_add]
  rw[Z,J,O];have h:=E (-r*x.1);clear U V I J M O E Z;grind
 ·have Z:(y.2.2:Int)*d=0*b+y.2.2*d:=by rw[Int.zero_mul,Int.zero_add]
  rw[Z,J,O];have h:=E (-r*x.2.1+p*x.2.2);clear U V I J M O E Z;grind
theorem Vp {f:Nat->Rat} {E:Nat->Nat} {m:Nat} (U:∀j,j<m->E j<m) (V:∀i j,i<m->j<m->E i=E j->i=j) (Z:∀i,i<m->∃j,j<m/\E j=i):sumQ (λj=>f (E j)) m=sumQ f m:=by
 have O:sumQ (λj=>f (E j)) m=sumQ (λj=>sumQ (λi=>if i=E j then f i else 0) m) m:=Ac (λj I=>by
  rw[A6 (U j I)]
  ·rw[if_pos rfl]
  ·intro i _ J;rw[if_neg J])
 rw[O,Cd];refine Ac (λi J=>?_);obtain⟨j,I,rfl⟩:=Z i J;rw[A6 I]
 ·rw[if_pos rfl]
 ·intro l h M
  rw[if_neg (λe=>M (V _ _ h I e.symm))]
def Ae (n t:Nat) (D:Int) (j:Nat):Pl.Cos:=(Pl.cosAt (Pl.kroP D) n t t).getD j ((0,0,0),0)
def F7 (n t:Nat) (D:Int):Nat:=(Pl.cosAt (Pl.kroP D) n t t).length
theorem Bv {n t:Nat} {D:Int} (I:0<t) {j:Nat} (E:j<F7 n t D):CoM n t (Ae n t D j).1.1 (Ae n t D j).1.2.1 (Ae n t D j).1.2.2/\(Ae n t D j).2=Pl.kroP D (Ae n t D j).1.1:=by
 have h:=(M7 (chi:=Pl.kroP D) (n:=n) (x:=Ae n t D j) I t (nL _)).1 (by
  unfold Ae;rw[List.getD_eq_getElem?_getD,List.getElem?_eq_getElem E];exact List.getElem_mem E)
 exact h.2
theorem M6 {n t:Nat} {D:Int} (J:0<t) {a b d:Nat} (h:CoM n t a b d):∃j,j<F7 n t D/\(Ae n t D j).1=(a,b,d):=by
 have I:=(M7 (chi:=Pl.kroP D) (n:=n) (x:=((a,b,d),Pl.kroP D a)) J t (nL _)).2 ⟨by
  have M:=h.ad;have O:a*1<=a*d:=Nat.mul_le_mul_left _ (by have:=h.bd;omega);dsimp only;omega,h,rfl⟩
 obtain⟨j,E,e⟩:=List.getElem_of_mem I;refine⟨j,E,?_⟩;unfold Ae;rw[List.getD_eq_getElem?_getD,List.getElem?_eq_getElem E,e];rfl
theorem O2 {n t:Nat} {D:Int} (I:0<t) {i j:Nat} (J:i<F7 n t D) (M:j<F7 n t D) (e:(Ae n t D i).1=(Ae n t D j).1):i=j:=by
 have O:=(Bv I J).2;have U:=(Bv I M).2;have E:Ae n t D i=Ae n t D j:=Prod.ext e (by rw[O,U,e]);unfold Ae at E;rw[List.getD_eq_getElem?_getD,List.getD_eq_getElem?_getD,List.getElem?_eq_getElem J,List.getElem?_eq_getElem M]at E;exact(List.getElem_inj (Uo (n:=n) (chi:=Pl.kroP D) I t (nL _))).1 E
noncomputable def coG (n t wt:Nat) (D:Int) (x:Nat->Rat) (Q:Nat->Rat) (u v:Int×Int):Rat:=
 sumQ (λj=>((Ae n t D j).2:Rat)*clG n wt D x (Ae n t D j).1.1 (Ae n t D j).1.2.1 0 (Ae n t D j).1.2.2 Q u v) (F7 n t D)
section
variable {n t wt:Nat} {D:Int} {x:Nat->Rat}
theorem bW {A B C E:Int} (I:A*E - B*C≠0) (q:Nat->Rat) (f:Nat->Nat->Rat) (m:Nat) {u v:Int×Int} (M:Cu u) (O:Cu v):
  clG n wt D x A B C E (λj=>sumQ (λi=>q i*f i j) m) u v=sumQ (λi=>q i*clG n wt D x A B C E (f i) u v) m:=by
 unfold clG;have J:subst (λj=>sumQ (λi=>q i*f i j) m) wt E (-B) (-C) A (wt+1)=λj=>sumQ (λi=>q i*subst (f i) wt E (-B) (-C) A (wt+1) j) m:=funext λl=>Kx q f m _ _ _ _ l
 have e:∀a b:Nat->Rat,∀m,sumQ a m - sumQ b m=sumQ (λi=>a i - b i) m:=λa b m=>by
  induction m with
  | zero=>show(0:Rat) - 0=0;grind
  | succ m ih=>rw[sumQ,sumQ,sumQ,<-ih];grind
 rw[J,S8 q (λi=>subst (f i) wt E (-B) (-C) A (wt+1)) m _ (Br I O),S8 q (λi=>subst (f i) wt E (-B) (-C) A (wt+1)) m _ (Br I M),e];exact Ac (λi _=>by grind)
theorem CoM.det0 {a b d:Nat} (h:CoM n t a b d):(a:Int)*d - b*0≠0:=by
 rw[Int.mul_zero,Int.sub_zero];have E:=h.a0;have I:=h.bd;exact Int.mul_ne_zero (by omega) (by omega)
theorem Q1 (I:Pl.check n ((wt:Int)+2) D=0) (O:RelZ n wt D x) {A B C E a b c e:Int} (hA:A*E - B*C≠0) (hg:G0 n a b c e) {s:Nat} (U:1<=s) (V:s<=n) (Z:pun n s=true) (h:(s:Int) % n=e % n) (P:Nat->Rat) {u v:Int×Int} (J:Cu u) (M:Cu v):
  clG n wt D x (a*A+b*C) (a*B+b*E) (c*A+e*C) (c*B+e*E) P u v=(Pl.kroP D s:Rat)*clG n wt D x A B C E P u v:=by
 rw[Sf (by rw[hg.det];decide) hA P J M];unfold clG;exact Zb (Q:=subst P wt E (-B) (-C) A (wt+1)) I O hg U V Z h (Br hA J) (Br hA M)
theorem PF.of_cos (V:Pl.check n ((wt:Int)+2) D=0) (hR:RelZ n wt D x) (J:0<t) (cG:t<=128):PF n wt D (coG n t wt D x) where
 congr Q Q' u v h:=by
  unfold coG clG;rw[show(λj=>((Ae n t D j).2:Rat)*_)=_ from funext λj=>by rw[Rx h]]
 lin q f m u v hu hv:=by
  unfold coG
  have e1:sumQ (λj=>((Ae n t D j).2:Rat)*clG n wt D x (Ae n t D j).1.1 (Ae n t D j).1.2.1 0 (Ae n t D j).1.2.2 (λj=>sumQ (λi=>q i*f i j) m) u v) (F7 n t D)=sumQ (λj=>sumQ (λi=>q i*(((Ae n t D j).2:Rat)*clG n wt D x (Ae n t D j).1.1 (Ae n t D j).1.2.1 0 (Ae n t D j).1.2.2 (f i) u v)) m) (F7 n t D):=Ac (λj E=>by
   rw[bW (Bv J E).1.det0 q f m hu hv,<-Am];exact Ac (λi _=>by grind))
  rw[e1,Cd];exact Ac (λi _=>by rw[Am])
 add Q u v z _ _ _:=by
  unfold coG;rw[<-As];exact Ac (λj _=>by unfold clG;grind)
 move Q a b c d s u v hg s1 s2 s3 s4 hu hv:=by
  obtain⟨⟨a1,a2⟩,_⟩:=Pl.check_ok V;have hn:0<n:=by omega
  have hi:G0 n d (-b) (-c) a:=⟨by rw[<-hg.det];grind,by rw[Int.dvd_neg];exact hg.low⟩
  have cD:∀j,∃i,j<F7 n t D->i<F7 n t D/\Turned a b c d (Ae n t D j).1 (Ae n t D i).1/\∀P,((Ae n t D j).2:Rat)*clG n wt D x (Ae n t D j).1.1 (Ae n t D j).1.2.1 0 (Ae n t D j).1.2.2 (subst P wt d (-b) (-c) a (wt+1)) (img a b c d u) (img a b c d v)=(Pl.kroP D s:Rat)*(((Ae n t D i).2:Rat)*clG n wt D x (Ae n t D i).1.1 (Ae n t D i).1.2.1 0 (Ae n t D i).1.2.2 P u v):=by
   intro j;rcases Nat.lt_or_ge j (F7 n t D)with E|E
   ·obtain⟨O,k2⟩:=Bv J E
    obtain⟨⟨⟨x1,x2,x3⟩,x4⟩,hx⟩:∃x,Ae n t D j=x:=⟨_,rfl⟩
    rw[hx]at O k2 ⊢;dsimp only at O k2;obtain⟨U,y2,y3,p,q,r,z,g1,g2,g3,g4,g5,g6⟩:=O.turn hn J hg;obtain⟨i,hi,he⟩:=M6 (D:=D) J g1;have k3:=(Bv J hi).2;obtain⟨s',t1,t2,t3,t4,_⟩:=eH hn g2;have cF:=O.kro V cG g1 hg g2 g3 s1 s2 s3 s4 t1 t2 t3 t4;refine⟨i,λ_=>⟨hi,by rw[he];exact⟨p,q,r,z,g2.det,g3,g4,g5,g6⟩,λP=>?_⟩⟩;rw[he]at k3;dsimp only at k3;rw[k2,k3,he];dsimp only;rw[<-Sf O.det0 (by rw[hg.det];decide) P hu hv,g3,g4,show(0:Int)*a+x3*c=r*U by rw[<-g5];grind,show(0:Int)*b+x3*d=r*y2+z*y3 by rw[<-g6];grind,show p*(U:Int)=p*U+q*0 by grind,show r*(U:Int)=r*U+z*0 by grind,Q1 V hR g1.det0 g2 t1 t2 t3 t4 P hu hv];have gP:(Pl.kroP D x1:Rat)*(Pl.kroP D s':Rat)=(Pl.kroP D s:Rat)*(Pl.kroP D U:Rat):=by exact_mod_cast cF
    grind
   ·exact⟨0,λh=>absurd h (by omega)⟩
  obtain⟨σ,M⟩:=Classical.axiomOfChoice cD;unfold coG;rw[Ac (λj E=>(M j E).2.2 Q),Am];congr 1;refine Vp (f:=λi=>((Ae n t D i).2:Rat)*clG n wt D x (Ae n t D i).1.1 (Ae n t D i).1.2.1 0 (Ae n t D i).1.2.2 Q u v) (λj E=>(M j E).1) (λi j I E e=>?_) (λi I=>?_)
  ·obtain⟨_,h1,_⟩:=M i I
   obtain⟨_,h2,_⟩:=M j E;rw[e]at h1;obtain⟨f1,f2,f3⟩:=Turned.left hg.det h1 h2 (Bv J I).1 (Bv J E).1;exact O2 J I E (Prod.ext f1 (Prod.ext f2 f3))
  ·obtain⟨O,_⟩:=Bv J I
   obtain⟨U,y2,y3,p,q,r,z,g1,g2,g3,g4,g5,g6⟩:=O.turn hn J hi;obtain⟨j,E,he⟩:=M6 (D:=D) J g1;refine⟨j,E,?_⟩;obtain⟨l1,l2,_⟩:=M j E
   have hT:Turned a b c d (Ae n t D j).1 (Ae n t D i).1:=by
    have Z:=g2.det;have cC:=hg.det;rw[he];obtain⟨b1,b2⟩:=Oa (u:=(U:Int)) (v:=0) Z (g3.trans (by rw[Int.mul_zero,Int.add_zero])) (g5.trans (by rw[Int.mul_zero,Int.add_zero]));obtain⟨b3,b4⟩:=Oa (u:=(y2:Int)) (v:=(y3:Int)) Z g4 g6;exact Vt cC Z b1 b2 b3 b4
   obtain⟨f1,f2,f3⟩:=Turned.right l2 hT (Bv J l1).1 O;exact O2 J l1 I (Prod.ext f1 (Prod.ext f2 f3))
end
end
section
open Go.RowKit Eli
def jJ (n:Nat) (q:Int):Prop:=∃m:Nat,q=m/\0<m/\m∣n/\Nat.gcd m (n / m)=1
noncomputable def wM (n wt:Nat) (D:Int) (F:List Nat) (X:Nat->Nat->Rat) (γ:Nat->M4) (A B C E:Int) (i k:Nat):Rat:=
 Qe wt (pts n (n*n)).length γ (clG n wt D (λj=>X j (F.getD k 0)) A B C E) (F.getD i 0)
theorem Pm {x y:Int} {A B:Nat} (h:x.natAbs<=A) (E:y.natAbs<=B):(x*y).natAbs<=A*B:=by
 rw[Int.natAbs_mul];exact Nat.mul_le_mul h E
theorem Ei {a b c d:Int} {A B:Nat} (E:a.natAbs<=A) (I:b.natAbs<=B) (J:c.natAbs<=A) (M:d.natAbs<=B):(a*b+c*d).natAbs<=2*(A*B):=by
 have O:=Pm E I;have U:=Pm J M;omega
theorem fH {A B C E:Int} {K H:Nat} {x:Int×Int} (I:A*E - B*C≠0) (bA:A.natAbs<=K) (bB:B.natAbs<=K) (bC:C.natAbs<=K) (bE:E.natAbs<=K) (O:Al x.1 x.2=0) (J:x.1.natAbs<=H) (M:x.2.natAbs<=H) (hK:2*(K*H)<=1073741824):
  Cg A B C E x.1 x.2=(img A B C E x,0)/\Al (img A B C E x).1 (img A B C E x).2=0/\(img A B C E x).1.natAbs<=1073741824/\(img A B C E x).2.natAbs<=1073741824:=by
 obtain⟨p,r⟩:=x;have U:=Ei bA J bB M;have V:=Ei bC J bE M;dsimp only at J M U V O ⊢;have h:=Mm (a:=A) (b:=B) (c:=C) (d:=E) (p:=p) (q:=r) I O (by omega) (by omega);exact⟨h.1,h.2.1,by have:=h.2.2.1;omega,by have:=h.2.2.2;omega⟩
theorem Vr {wt e:Nat} {A B C E a b c d:Int} (h:wt<=22) (bA:-20000<=A/\A<=20000) (bB:-20000<=B/\B<=20000) (bC:-20000<=C/\C<=20000) (bE:-20000<=E/\E<=20000) (I:a.natAbs<=120) (J:b.natAbs<=120) (M:c.natAbs<=120) (bd:d.natAbs<=120) (j:Nat):hq (subst (symP wt e A B C E) wt d (-b) (-c) a (wt+1) j)<=4000:=by
 unfold symP;rw[Lj];have O:=Ei (A:=20000) (B:=120) (a:=E) (b:=d) (c:=-B) (d:=-c) (by omega) bd (by omega) (by omega);have U:=Ei (A:=20000) (B:=120) (a:=E) (b:=-b) (c:=-B) (d:=a) (by omega) (by omega) (by omega) I;have V:=Ei (A:=20000) (B:=120) (a:=-C) (b:=d) (c:=A) (d:=-c) (by omega) bd (by omega) (by omega);have Z:=Ei (A:=20000) (B:=120) (a:=-C) (b:=-b) (c:=A) (d:=a) (by omega) (by omega) (by omega) I;exact Cm (K:=4) (λi _=>nM (Nc e i) (by decide)) (Df (by omega) (by omega)) (Df (by omega) (by omega)) (Df (by omega) (by omega)) (Df (by omega) (by omega)) (by omega) (by omega)
theorem ALm.det0 {n q:Nat} {A B C E:Int} (h:ALm n q A B C E):A*E - B*C≠0:=by
 have I:=h.det;have J:=h.hq;omega
theorem RowsX.nil (F:Nat->Nat->Rat) (C:Nat) (w:World) (B:Nat):RowsX F 0 C w B (.slice none 0 0):=⟨λ_=>0,OwnK.nil _ _ _ _ _,λ_ _ E=>absurd E (Nat.not_lt_zero _)⟩
def WAny (n wt R:Nat) (D q:Int) (F:List Nat) (X:Nat->Nat->Rat) (γ:Nat->M4) (w':World) (a b:Int) (v:Option Addr) (s c:Nat) (er:Int):Prop:=
 (D=1->jJ n q->er=0)/\(er=0->∃(m:Nat) (A B C E:Int),D=1/\q=m/\ALm n m A B C E/\a=R/\b=R/\s=R*R/\QL (λj=>IsQ (wM n wt 1 F X γ A B C E (j / R) (j % R))) w' (.slice v (R*R) c) (R*R)/\∀i k,i<R->k<R->hq (wM n wt 1 F X γ A B C E i k)<=430000000)
end
section
open Eli
section
variable {n wt:Nat} {D:Int} {x:Nat->Rat} {γ:Nat->M4}
theorem S6 (t:Rat) (Q:Nat->Rat) (a b c d:Int):ph n wt D x (λj=>t*Q j) a b c d=t*ph n wt D x Q a b c d:=by
 have h:=Rk (n:=n) (wt:=wt) (D:=D) (x:=x) (λ_=>t) (λ_=>Q) 1 a b c d;simp only[sumQ]at h;have e:(λj=>(0:Rat)+t*Q j)=λj=>t*Q j:=funext λj=>by grind
 rw[e]at h;rw[h];grind
theorem Vn (t:Rat) (Q:Nat->Rat) (u v:Int×Int):Aj n wt D x (λj=>t*Q j) u v=t*Aj n wt D x Q u v:=by
 unfold Aj;rw[S6,S6];split <;> rfl
theorem Pq (t:Rat) (Q:Nat->Rat):∀u,Cu u->Pot (Aj n wt D x (λj=>t*Q j)) u=t*Pot (Aj n wt D x Q) u:=by
 refine J8 ?_ (λz y V U O E I J M=>?_)
 ·rw[Fm,Fm,Rat.mul_zero]
 ·rw[Ch E I J,Ch (st:=Aj n wt D x Q) E I J,M,Vn]
  grind
end
section
variable {n q wt:Nat} {F:List Nat} {X:Nat->Nat->Rat} {γ:Nat->M4}
end
end
section
open Go.RowKit Eli
noncomputable def coM (n t wt:Nat) (D:Int) (F:List Nat) (X:Nat->Nat->Rat) (γ:Nat->M4) (i k:Nat):Rat:=
 Qe wt (pts n (n*n)).length γ (coG n t wt D (λj=>X j (F.getD k 0))) (F.getD i 0)
theorem Xb {chi:Nat->Int} {n t:Nat}:∀k,(Pl.cosAt chi n t k).length<=(Pl.cosAt (λ_=>0) 1 t k).length:=by
 intro k;induction k with
 | zero=>exact nL _
 | succ k ih=>
  rw[Pl.cosAt,Pl.cosAt,List.length_append,List.length_append];by_cases h:t % (k+1)=0/\Nat.gcd (k+1) n=1
  ·rw[if_pos h,if_pos ⟨h.1,Nat.gcd_one_right _⟩,Pl.cosRow_len,Pl.cosRow_len];omega
  ·rw[if_neg h];simp only[List.length_nil];omega
theorem gH:∀t,t<13->(Pl.cosAt (λ_=>0) 1 t t).length<=28:=by decide +kernel
theorem Si {n t:Nat} {D:Int} (E:t<=12):F7 n t D<=28:=nM (Xb t) (gH t (by omega))
theorem O3 {n t:Nat} {D:Int} (E:0<t):0<F7 n t D:=by
 obtain⟨j,I,_⟩:=M6 (n:=n) (t:=t) (D:=D) (a:=1) (b:=0) (d:=t) E ⟨nL 1,Nat.one_mul t,E,Nat.gcd_one_left _⟩;omega
noncomputable def coS (n t wt:Nat) (D:Int) (x:Nat->Rat) (Q:Nat->Rat) (u v:Int×Int) (m:Nat):Rat:=
 sumQ (λj=>((Ae n t D j).2:Rat)*clG n wt D x (Ae n t D j).1.1 (Ae n t D j).1.2.1 0 (Ae n t D j).1.2.2 Q u v) m
theorem eQ {ch:Int} (h:-1<=ch/\ch<=1) (z:Rat):hq ((ch:Rat)*z)<=max (hq z) 1:=by
 rcases(show ch=-1∨ch=0∨ch=1 by omega)with rfl|rfl|rfl
 ·have e:(((-1:Int)):Rat)*z=-z:=by push_cast;grind
  rw[e,Kg];omega
 ·have e:(((0:Int)):Rat)*z=((0:Int):Rat):=by push_cast;grind
  rw[e,Dw,Int.natAbs_zero,Cr];omega
 ·have e:(((1:Int)):Rat)*z=z:=by push_cast;grind
  rw[e];omega
section
variable {n t wt:Nat} {D:Int} {x:Nat->Rat}
theorem Hy {a b d H:Nat} {u:Int×Int} (h:CoM n t a b d) (ht:t<=128) (O:Al u.1 u.2=0) (E:u.1.natAbs<=H) (I:u.2.natAbs<=H) (M:H<=20000):
  Cg a b 0 d u.1 u.2=(img a b 0 d u,0)/\Al (img a b 0 d u).1 (img a b 0 d u).2=0/\(img a b 0 d u).1.natAbs<=1073741824/\(img a b 0 d u).2.natAbs<=1073741824:=by
 have J:=h.a0;have U:=h.bd;have V:a*1<=a*d:=Nat.mul_le_mul_left _ (by omega);have Z:1*d<=a*d:=Nat.mul_le_mul_right _ J;have h7:=h.ad;refine fH (K:=128) (H:=H) h.det0 (by omega) (by omega) (by omega) (by omega) O E I ?_;have h8:128*H<=128*20000:=Nat.mul_le_mul_left _ M;omega
theorem W9 {c:Pl.Cos} {P:Nat->Rat} {u v:Int×Int} (E:(c.1.1:Int)*c.1.2.2 - c.1.2.1*0≠0) (I:Cu u) (J:Cu v):
  Pot (Aj n wt D x (N2 P (wt+1) c)) (img c.1.1 c.1.2.1 0 c.1.2.2 v) - Pot (Aj n wt D x (N2 P (wt+1) c)) (img c.1.1 c.1.2.1 0 c.1.2.2 u)=(c.2:Rat)*clG n wt D x c.1.1 c.1.2.1 0 c.1.2.2 P u v:=by
 have e:N2 P (wt+1) c=λj=>(c.2:Rat)*subst P wt (c.1.2.2:Nat) (-(c.1.2.1:Nat)) (-0) (c.1.1:Nat) (wt+1) j:=rfl
 rw[e,Pq _ _ _ (Br E J),Pq _ _ _ (Br E I)];unfold clG;grind
end
def PRd (w:World) (p:Option Addr) (i n:Nat) (f:Nat->Rat) (x y:Int×Int):Prop:=
 ∃gI g cap,p=some ⟨gI,0,none⟩/\gI<w.heap.size/\w.cell? ⟨gI,i*5,none⟩=some (.slice (some ⟨g,0,none⟩) n cap)/\w.cell? ⟨gI,i*5+1,none⟩=some (.int .i64 x.1)/\w.cell? ⟨gI,i*5+2,none⟩=some (.int .i64 x.2)/\w.cell? ⟨gI,i*5+3,none⟩=some (.int .i64 y.1)/\w.cell? ⟨gI,i*5+4,none⟩=some (.int .i64 y.2)/\QRow (λj=>IsQ (f j)) w g n n
theorem PRd.keep {w w':World} {p:Option Addr} {i n:Nat} {f:Nat->Rat} {x y:Int×Int} (h:PRd w p i n f x y) (E:Below w.heap.size w w'):PRd w' p i n f x y:=by
 obtain⟨I,g,cap,e,hg,J,M,O,U,V,Z⟩:=h;exact⟨I,g,cap,e,nN hg E.size,Ad E J,Ad E M,Ad E O,Ad E U,Ad E V,Z.keep (λ_=>IsQ.solid _) E⟩
theorem OwnP.read {F:Nat->Nat->Rat} {X Y:Nat->Int×Int} {w:World} {B k n:Nat} {v:Value} (h:OwnP F X Y w B v k n):∃p c,v=.slice p k c/\∀i,i<k->PRd w p i n (F i) (X i) (Y i):=by
 obtain⟨_,xs,E,h2⟩:=h;rcases Cb E.1 with⟨rfl,h0,_⟩ |⟨g,cap,rfl,_,hg,_⟩
 ·exact⟨none,0,by rw[h0],λi J=>by omega⟩
 ·refine⟨_,cap,rfl,λi J=>?_⟩
  obtain⟨g',I,M,O,U,V,Z,e5⟩:=h2 i J;exact⟨g,g',I,rfl,hg,Ai E.1 M,Ai E.1 O,Ai E.1 U,Ai E.1 V,Ai E.1 Z,e5⟩
end
section
open Eli
def nF (n a k:Nat):List M4:=(List.range k).map λc:Nat=>((a:Int),(0:Int),(c:Int),((n / a:Nat):Int))
def mF (n a b d0:Nat):Nat->List M4
 | 0=>[]
 | k+1=>if(a*(d0+k) - n) % b=0 then mF n a b d0 k++[((a:Int),(b:Int),(((a*(d0+k) - n) / b:Nat):Int),((d0+k:Nat):Int))]else mF n a b d0 k
def mV (n a:Nat):Nat:=(n+a - 1) / a
def nG (n a b:Nat):Nat:=(n+(a - b) - 1) / (a - b) - mV n a
def mW (n a:Nat):Nat->List M4
 | 0=>[]
 | k+1=>mW n a k++mF n a (k+1) (mV n a) (nG n a (k+1))
def nH (n a:Nat):List M4:=if n % a=0 then nF n a (n / a)else []
def mr (n:Nat):Nat->List M4
 | 0=>[]
 | k+1=>(mr n k++nH n (k+1))++mW n (k+1) k
end
section
open Go.RowKit Eli
def MatsIn (w:World) (v:Value) (L:List M4):Prop:=∃g c,v=.slice (some ⟨g,0,none⟩) L.length c/\g<w.heap.size/\∀t,t<L.length->(w.cell? ⟨g,t*4,none⟩=some (.int .i64 (L.getD t (0,0,0,0)).1)/\w.cell? ⟨g,t*4+1,none⟩=some (.int .i64 (L.getD t (0,0,0,0)).2.1)/\w.cell? ⟨g,t*4+2,none⟩=some (.int .i64 (L.getD t (0,0,0,0)).2.2.1)/\w.cell? ⟨g,t*4+3,none⟩=some (.int .i64 (L.getD t (0,0,0,0)).2.2.2))
theorem MatsIn.keep {w w':World} {v:Value} {L:List M4} (h:MatsIn w v L) (E:Below w.heap.size w w'):MatsIn w' v L:=by
 obtain⟨g,c,e,hg,U⟩:=h;refine⟨g,c,e,nN hg E.size,λt V=>?_⟩;obtain⟨I,J,M,O⟩:=U t V;exact⟨(E.cell (p:=⟨g,t*4,none⟩) hg).trans I,(E.cell (p:=⟨g,t*4+1,none⟩) hg).trans J,(E.cell (p:=⟨g,t*4+2,none⟩) hg).trans M,(E.cell (p:=⟨g,t*4+3,none⟩) hg).trans O⟩
theorem QL.boxM {f:Nat->Rat} {w w':World} {p:Option Addr} {m c R:Nat} (h:QL (λj=>IsQ (f j)) w (.slice p m c) m) (M:Stk (λv=>∀b,v≠.bool b) w R) (J:I32 w w') (hg:w.grownBy w' (some R)):QL (λj=>IsQ (f j)) w' (.slice p m c) m:=by
 rcases Nat.eq_zero_or_pos m with I|I
 ·subst I
  exact .inl ⟨rfl,p,c,rfl⟩
 ·obtain⟨g,o,cap,E,_,U⟩:=h.resolve_left (λh=>by omega)
  refine h.boxed (λ_=>IsQ.solid _) J hg (λa V e=>?_);injection E with E
  obtain⟨s,p',n',Z,t,q,m',d,O,_⟩:=U 0 I;rw[V]at E;injection E with E
  rw[E]at e;rw[show g=R from e]at O;exact M.2 _ _ O _ rfl
def jC (FL:Nat) (f:Nat->Nat->Rat) (w':World) (e:Ending):Prop:=∃p c,e=.returned (.tuple #[.agg #[.int .i64 FL,.int .i64 FL,.slice p (FL*FL) c],.int .i64 0])/\QL (λj=>IsQ (f (j / FL) (j % FL))) w' (.slice p (FL*FL) c) (FL*FL)
end
end Go.Proofs.YtenlbhlllgppmaaGreatDoor
