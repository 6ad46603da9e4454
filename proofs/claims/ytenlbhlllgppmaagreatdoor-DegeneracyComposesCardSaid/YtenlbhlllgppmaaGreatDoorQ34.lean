/- matrix.Mul. -/
import Derived.Test.YtenlbhlllgppmaaGreatDoorQ33
set_option linter.unusedSimpArgs false
set_option maxRecDepth 100000
set_option maxHeartbeats 8000000
namespace Go.Proofs.YtenlbhlllgppmaaGreatDoor
section
open Go.RowKit Eli Tryz
theorem R5 (R C I:Nat) (O:Option Addr) (J:Nat) (T:Nat->Nat->Rat) (W:World) (hA:QL (λj=>IsQ (T (j / C) (j % C))) W (.slice O I J) I) (H:R*C=I) (hR:R<=1000) (hC:C<=1000) (hT:∀i q,i<R->q<C->hq (T i q)<=430000000):
  Calls prog 71 #[.agg #[.int .i64 R,.int .i64 C,.slice O I J]] W λe w'=>(∃G gs,e=.returned (.slice (some ⟨G,0,none⟩) R R)/\GM T R C w' G gs W.heap.size)/\Below W.heap.size W w':=by
 have Y:∀i q,q<C->T i q=(λj=>T (j / C) (j % C)) (i*C+q):=λi q hq=>by
  dsimp only;rw[show(i*C+q) / C=i by rw[Nat.mul_comm,Nat.mul_add_div (by omega),Nat.div_eq_of_lt hq,Nat.add_zero],show(i*C+q) % C=q by rw[Nat.mul_comm,Nat.mul_add_mod,Nat.mod_eq_of_lt hq]]
 rcases hA with⟨h,_⟩ |⟨Z,oA,cap,e,hg,hq⟩
 ·exact Gx R C I 0 0 J O (λj=>T (j / C) (j % C)) T W (λh2=>by omega) (λj V=>by omega) H (by omega) (by omega) (λj V=>by omega) Y
 ·injection e with e1 e2 e3
  exact Gx R C I Z oA J O (λj=>T (j / C) (j % C)) T W (λ_=>⟨e1,hg⟩) hq H (by omega) (by omega) (λj V=>by
   have U:0<C:=by
    rcases Nat.eq_zero_or_pos C with h|h
    ·rw[h,Nat.mul_zero]at H;omega
    ·exact h
   exact kU (hT (j / C) (j % C) (Nat.div_lt_of_lt_mul (by rw[Nat.mul_comm,H];exact V)) (Nat.mod_lt _ U)) (by decide)) Y
theorem dQ (R C C2:Nat) (pA pB:Option Addr) (cA cB:Nat) (A B:Nat->Nat->Rat) (w:World) (hA:QL (λj=>IsQ (A (j / C) (j % C))) w (.slice pA (R*C) cA) (R*C)) (hB:QL (λj=>IsQ (B (j / C2) (j % C2))) w (.slice pB (C*C2) cB) (C*C2)) (hR:R<=72) (hC:C<=72) (nU:C2<=72) (hZ:∀i q,i<R->q<C->hq (A i q)<=430000000) (iL:∀i q,i<C->q<C2->hq (B i q)<=430000000):
  Calls prog 29 #[.agg #[.int .i64 R,.int .i64 C,.slice pA (R*C) cA],.agg #[.int .i64 C,.int .i64 C2,.slice pB (C*C2) cB]] w λe w'=>(∃p c,e=.returned (.tuple #[.agg #[.int .i64 R,.int .i64 C2,.slice p (R*C2) c],.int .i64 0])/\QL (λj=>IsQ (Dt (A (j / C2)) B C (j % C2))) w' (.slice p (R*C2) c) (R*C2))/\Below w.heap.size w w':=by
 obtain⟨RA,dY⟩:∃x,R*C=x:=⟨_,rfl⟩
 obtain⟨RB,eP⟩:∃x,C*C2=x:=⟨_,rfl⟩
 obtain⟨RP,hS⟩:∃x,R*C2=x:=⟨_,rfl⟩
 rw[dY]at hA ⊢;rw[eP]at hB ⊢;rw[hS];have lM:=Kh (λW=>Mw R C RA pA cA W (by omega) (by omega) dY);have lN:=Kh (λW=>Mw C C2 RB pB cB W (by omega) (by omega) eP);have lJ:=Kh (λW (Y:Below w.heap.size w W)=>R5 R C RA pA cA A W (hA.keep (λ_=>IsQ.solid _) Y) dY (by omega) (by omega) hZ);have lK:=Kh (λW (Y:Below w.heap.size w W)=>R5 C C2 RB pB cB B W (hB.keep (λ_=>IsQ.solid _) Y) eP (by omega) (by omega) iL);have nD:=Kh hZ;have nE:=Kh iL;have nC:=Kh hS;clear hA hB hZ iL dY eP hS;go_enter func29,ntmps29
 go_wp2_with fail
 obtain⟨w0,mH,XA,XB,XR,lW⟩:=Rw w #[.int .i64 R,.int .i64 C,.slice pA RA cA] 32 #[.int .i64 C,.int .i64 C2,.slice pB RB cB] 32 #[.int .i64 0,.int .i64 0,.slice none 0 0] 32;rw[mH];obtain⟨ga,hW⟩:∃x,w.heap.size=x:=⟨_,rfl⟩
 obtain⟨gb,hX⟩:∃x,w.heap.size+1=x:=⟨_,rfl⟩
 obtain⟨gr,aK⟩:∃x,w.heap.size+2=x:=⟨_,rfl⟩
 have H:w.heap.size+1+1=gr:=aK;have lI:=Kh (show w.heap.size<=gr by omega);rw[hW]at XA;rw[hX]at XB
 (first|rw[aK]at XR|rw[H]at XR)
 try rw[aK]
 try rw[H]
 try rw[hX]
 try rw[hW]
 have cC:=Kh XA;have lP:=Kh XB;have lQ:=Kh XR;have lD:=Kh lW;clear mH XA XB XR lW hW hX aK H;have a0:=cC.1.at_ 0 rfl;have a1:=cC.1.at_ 1 rfl;have a2:=cC.1.at_ 2 rfl;go_wp2_with fail
 refine(lM.1 w0).mono ?_;rintro e w2 ⟨rfl,cF⟩;have gL:=Kh (bk cC cF);have aD:=Kh (bk lP cF);have gS:=Kh (bk lQ cF);have lE:=bt lD cF;clear a0 a1 a2 cF cC lP lQ lD lM;have b0:=aD.1.at_ 0 rfl;have b1:=aD.1.at_ 1 rfl;have b2:=aD.1.at_ 2 rfl;go_wp2_with fail
 refine(lN.1 w2).mono ?_;rintro e w3 ⟨rfl,cG⟩;have aL:=Kh (bk gL cG);have J:=Kh (bk aD cG);have aN:=Kh (bk gS cG);have Z:=bt lE cG;clear b0 b1 b2 cG gL aD gS lE lN;have a0:=aL.1.at_ 0 rfl;have a1:=aL.1.at_ 1 rfl;have a2:=aL.1.at_ 2 rfl;have b0:=J.1.at_ 0 rfl;have b1:=J.1.at_ 1 rfl;have b2:=J.1.at_ 2 rfl;have nJ:((C:Int) !=(C:Int))=false:=by simp
 go_upto_region 3 with(fail)
 refine K6 (λW=>W.cell? ⟨ga,0,none⟩=some (.int .i64 R)/\W.cell? ⟨ga,1,none⟩=some (.int .i64 C)/\W.cell? ⟨ga,2,none⟩=some (.slice pA RA cA)/\W.cell? ⟨gb,0,none⟩=some (.int .i64 C)/\W.cell? ⟨gb,1,none⟩=some (.int .i64 C2)/\W.cell? ⟨gb,2,none⟩=some (.slice pB RB cB)) (λW Y=>⟨Au Y a0,Au Y a1,Au Y a2,Au Y b0,Au Y b1,Au Y b2⟩) (λdC hHeld0=>?_);refine Al 0 ?_;refine Al 2 ?_;refine F9 1 rfl (λK hK=>?_);focus(go_simp;refine(lJ.1 _ (Z.1.trans ((Below.refl _ w3).drew.mono Z.1.size))).mono ?_;rintro e w4 ⟨⟨G,gs,rfl,cT⟩,lX⟩;have cX:=Kh ((Below.refl _ w3).drew.trans lX:Below w3.heap.size w3 w4);have bE:=Kh cT;clear cT lX;(first|with_reducible refine hK.out _ _ ?_ (λhHeld1=>?_) |(go_wp2_with fail;with_reducible refine hK.out _ _ ?_ (λhHeld1=>?_))))
 focus((try dsimp only);exact dC.1 _ cX.1)
 focus(clear hK K;(try simp only[Act.put,Br,Bt,Bs]))
 refine F9 3 rfl (λK hK=>?_);focus(go_simp;refine(lK.1 _ (Z.1.trans (cX.1.mono Z.1.size))).mono ?_;rintro e w5 ⟨⟨G',lU,rfl,cT⟩,hT⟩;have bC:=Kh (cX.1.trans (hT.mono cX.1.size):Below w3.heap.size w3 w5);have I:=Kh (bE.1.keep hT);have hM:=Kh cT;have hN:=Kh bE.1.stk.1;clear cT hT bE;(first|with_reducible refine hK.out _ _ ?_ (λhHeld2=>?_) |(go_wp2_with fail;with_reducible refine hK.out _ _ ?_ (λhHeld2=>?_))))
 focus((try dsimp only);exact dC.1 _ bC.1)
 focus(clear hK K;(try simp only[Act.put,Br,Bt,Bs]))
 refine Al 4 ?_;refine K5 5 rfl (λK hK=>?_);go_simp
 refine hK.out _ _ ?_;clear hK K
 (try simp only[Act.put,Br,Bt,Bs])
 clear a0 a1 a2 b0 b1 b2 nJ lJ lK;have lO:=Kh (Z.1.trans (bC.1.mono Z.1.size));have gN:=Kh (J.1.below_ bC.1 J.1.lt);have gU:=Kh (aN.1.below_ bC.1 aN.1.lt);have aJ:=Kh (And.intro (show gb<G from kV J.1.lt (kU ((Below.refl w3.heap.size w3).drew.size) I.1.hB)) (And.intro (show gr<G from kV aN.1.lt (kU ((Below.refl w3.heap.size w3).drew.size) I.1.hB)) (And.intro (show w.heap.size<=G from kU Z.1.size (kU ((Below.refl w3.heap.size w3).drew.size) I.1.hB)) (And.intro (show G<G' from kV hN.1 hM.1.hB) (show ∀i,i<C->G<lU i from λi U=>kV hN.1 (hM.1.ge i U))))));clear aL J aN bC Z hN;go_wp2_with fail
 go_loopw [31] (λii wr=>∃(k:Nat) (gt:Nat->Nat),k<=R/\ii=.int .i64 k/\GM (λi q=>Dt (A i) B C q) k C2 wr G gt w.heap.size/\(∀i,k<=i->i<R->wr.cell? ⟨G,i,none⟩=w5.cell? ⟨G,i,none⟩)/\w5.grownBy wr (some G)/\I32 w5 wr) (λii _=>R - (intOf ii).toNat)
 case atStart=>exact⟨0,gs,Nat.zero_le _,rfl,⟨I.1.stk,I.1.free,aJ.1.2.2.1,λi U=>absurd U (Nat.not_lt_zero _),λi U=>absurd U (Nat.not_lt_zero _),λi U=>absurd U (Nat.not_lt_zero _),λi U=>absurd U (Nat.not_lt_zero _),λi j U=>absurd U (Nat.not_lt_zero _)⟩,λ_ _ _=>rfl,Af G (Below.refl _ _),I32.refl _⟩
 case round=>
  obtain⟨k,gt,hk,rfl,mB,mF,aK,lV⟩:=hrel;obtain⟨we,rfl⟩:∃we:World,we=wr:=⟨_,rfl⟩
  have bY:=Kh mB;have hO:=Kh mF;have aX:=Kh aK;have hJ:=Kh lV;have X5:=aX.1.block gb gN.1.lt (λe=>by injection e with e;have:=aJ.1.1;omega);have gP:=Kh (show Blk we gb 32 #[.int .i64 C,.int .i64 C2,.slice pB RB cB]from X5.trans gN.1);have X6:=aX.1.block gr gU.1.lt (λe=>by injection e with e;have:=aJ.1.2.1;omega);have hD:=Kh (show Blk we gr 32 #[.int .i64 0,.int .i64 0,.slice none 0 0]from X6.trans gU.1);clear mB mF aK lV X5 X6;by_cases hlt:k<R
  ·have nY:(k:Int)<(R:Int):=by omega
   have l0:=(hO.1 k (kT k) hlt).trans (I.1.at_ k hlt);have b1:=gP.1.at_ 1 rfl;have mE:=(I.1.row k hlt).i32 (λ_=>IsQ.solid _) hJ.1 aX.1 (I.1.ne k hlt);have mD:=hM.1.but hJ.1 aX.1 (by have:=aJ.1.2.2.2.1;omega) (λi U=>by have:=aJ.1.2.2.2.2 i U;omega);have lL:=Kh (λW (Y:Below we.heap.size we W)=>Ot C C2 G' lU _ (A k) B (.slice (some ⟨gs k,0,none⟩) C C) W (mD.keep Y) ((mE.keep (λ_=>IsQ.solid _) Y).ql C) hC (by omega) (λj hj=>nD.1 k j hlt hj) nE.1);clear mE mD;go_upto_region 7 with(fail)
   refine K6 (λW=>W.cell? ⟨G,k,none⟩=some (.slice (some ⟨gs k,0,none⟩) C C)/\W.cell? ⟨gb,1,none⟩=some (.int .i64 C2)/\W.cell? ⟨G,k,none⟩=some (.slice (some ⟨gs k,0,none⟩) C C)/\W.frozen? ⟨G,k,none⟩=false) (λW Y=>⟨Au Y l0,Au Y b1,Au Y l0,Ab Y (by rw[l0];rfl) (bY.1.free k)⟩) (λdC hHeld0=>?_);refine Al 0 ?_;refine Al 1 ?_;refine Al 2 ?_;refine Al 3 ?_;refine Al 4 ?_;refine Al 5 ?_;refine Al 6 ?_;refine Al 7 ?_;refine Al 8 ?_;refine F9 9 rfl (λK hK=>?_);focus(go_simp;refine(lL.1 _ (Below.refl _ we).drew).mono ?_;rintro e w8 ⟨⟨g,rfl,mA,hI⟩,lY⟩;have aU:=Kh ((Below.refl _ we).drew.trans lY:Below we.heap.size we w8);have nB:=Kh hI;have lH:=Kh (kU ((Below.refl we.heap.size we).drew.size) mA);clear lY hI mA;(first|with_reducible refine hK.out _ _ ?_ (λhHeld1=>?_) |(go_wp2_with fail;with_reducible refine hK.out _ _ ?_ (λhHeld1=>?_))))
   focus((try dsimp only);exact dC.1 _ aU.1)
   focus(clear hK K;(try simp only[Act.put,Br,Bt,Bs]))
   refine Al 10 ?_;refine K5 11 rfl (λK hK=>?_);go_simp
   refine hK.out _ _ ?_;clear hK K
   (try simp only[Act.put,Br,Bt,Bs])
   clear l0 b1 lL;have nK:G<g:=kV bY.1.stk.1 lH.1;obtain⟨ws,V⟩:∃ws,w8.setCell ⟨G,k,none⟩ (.slice (some ⟨g,0,none⟩) C2 C2)=ws:=⟨_,rfl⟩
   have O:=bY.1.keep aU.1;have aT:I32 w8 ws:=V▸I32.putU (O.stk.imp λ_=>SliceV.notU32) k _;have H:w8.grownBy ws (some G):=V▸Ai w8 G k _
   have hV:ws.cell? ⟨G,k,none⟩=some (.slice (some ⟨g,0,none⟩) C2 C2):=by
    rw[<-V];exact World.cell?_setCell_same' _ _ _ (by rw[Ac aU.1 ((hO.1 k (kT k) hlt).trans (I.1.at_ k hlt))];rfl)
   have mC:GM (λi q=>Dt (A i) B C q) k C2 ws G gt w.heap.size:=by
    refine⟨V▸Bc O.stk _ _ ⟨_,_,_,rfl⟩,λi=>V▸At (O.free i),O.hB,λi U=>?_,λi U=>(O.row i U).i32 (λ_=>IsQ.solid _) aT H (O.ne i U),O.ge,O.ne,O.inj⟩;rw[<-V,World.cell?_setCell_other _ _ _ _ (by simp <;> omega)];exact O.at_ i U
   have mX:=Kh (mC.more (g:=g) (by rw[hV];rfl) (nB.1.i32 (λ_=>IsQ.solid _) aT H (by omega)) (by have:=aJ.1.2.2.1;omega) (by omega) (λi U=>by have h1:=(bY.1.row i U).sts.1;have h2:=lH.1;omega) hV)
   have nA:=Kh (show ∀i,k+1<=i->i<R->ws.cell? ⟨G,i,none⟩=w5.cell? ⟨G,i,none⟩from λi h1 h2=>by
    rw[<-V,World.cell?_setCell_other _ _ _ _ (by simp <;> omega),Ac aU.1 ((hO.1 i (by omega) h2).trans (I.1.at_ i h2)),I.1.at_ i h2])
   have mW:=Kh ((aX.1.trans (Af G aU.1)).trans H);have mV:=Kh ((hJ.1.trans (I32.below aU.1)).trans aT);rw[V];clear V O aT H hV mC nK;go_wp2;go_roundw
   case rel=>exact⟨k+1,_,by omega,by go_num,mX.1,nA.1,mW.1,mV.1⟩
   case measure=>simp[intOf];omega
  ·obtain rfl:k=R:=by omega
   have gF:=Kh (An lO.1 aX.1 lO.1.size aJ.1.2.2.1);have b1:=gP.1.at_ 1 rfl;clear hlt hk;go_wp2_with fail
   refine(Ls (λi q=>Dt (A i) B C q) k C2 k G k gt w.heap.size we bY.1 (kT _) (by omega) (by omega)).mono ?_;rintro e w9 ⟨⟨v9,rfl,gA⟩,hU⟩;obtain⟨p9,c9,rfl⟩:=Fk gA.ql;have hY:=gA.ql;have lZ:=gA.fromO;have X9:=bk hD hU;have hG:=gF.1.trans (hU.mono gF.1.size);rw[nC.1]at hY ⊢;have x0:=X9.at_ 0 rfl;have x1:=X9.at_ 1 rfl;have x2:=X9.at_ 2 rfl;have f0:=X9.free_ 0;have f1:=X9.free_ 1;have f2:=X9.free_ 2;have mG:Stk NotU32 w9 gr:=Stk.of X9 (by intro v hv;simp at hv;rcases hv with rfl|rfl|rfl <;> exact λ_ h=>by cases h);have mZ:=Kh (show ∀W,I32 w9 W->w9.grownBy W (some gr)->QL (λj=>IsQ (Dt (A (j / C2)) B C (j % C2))) W (.slice p9 RP c9) RP from λW h1 h2=>hY.boxed (λ_=>IsQ.solid _) h1 h2 (λa ha e=>by have h3:=lZ a ha;have h4:=hD.1.lt;omega));have hL:=Kh (C1 (w:=w9) (R:=gr) (v0:=.int .i64 (k:Int)) (v1:=.int .i64 (C2:Int)) (v2:=.slice p9 RP c9) (by rw[x0];rfl) (by rw[x1];rfl) (by rw[x2];rfl));have mY:=Kh (Hi mG (v0:=.int .i64 (k:Int)) (v1:=.int .i64 (C2:Int)) (v2:=.slice p9 RP c9) (λ_ h=>by cases h) (λ_ h=>by cases h));have lG:=Kh (((Ai w9 gr 0 (.int .i64 (k:Int))).trans (Ai _ gr 1 (.int .i64 (C2:Int)))).trans (Ai _ gr 2 (.slice p9 RP c9)));have lF:=Kh hG;clear gA hY lZ hU hG X9 mG b1;go_wp2;have e0:=hL.1.1;have e1:=hL.1.2.1;have e2:=hL.1.2.2;try simp only[Exit.inBlock,Exit.then]
   refine bodyPost_ret (by simp[results,results29,go_sem,e0,e1,e2];try rfl) rfl ?_;exact⟨⟨p9,c9,rfl,mZ.1 _ mY.1 lG.1⟩,An lF.1 lG.1 lF.1.size lI.1⟩
end
section
open Eli
theorem Wh {n n' H wt t u:Nat} {D:Int} {F F' I:List Nat} {X' J:Nat->Nat->Rat} {γ aK:Nat->M4} (V:Pl.check n' ((wt:Int)+2) D=0) (O:Pl.check H ((wt:Int)+2) D=0) (aL:Crd n' wt D F' X') (hR:∀f,f∈I->RelZ H wt D (λj=>J j f)) (bB:D3 n γ) (aJ:D3 n' aK) (ht:0<t) (hu:0<u) (aN:H*u∣n') (hN:0<(pts n (n*n)).length) {i k:Nat} (hk:k<I.length):
  Dt (dnM n n' wt D F F' X' γ t i) (dnM n' H wt D F' I J aK u) F'.length k=dnM n H wt D F I J γ (t*u) i k:=by
 obtain⟨g1,_,_⟩:=bB _ (Nat.mod_lt (F.getD i 0) hN);have U:∀(n2 s:Nat) (G:List Nat) (Y:Nat->Nat->Rat) (m:Nat),dnM n n2 wt D F G Y γ s i m=clG n2 wt D (λj=>Y j (G.getD m 0)) s 0 0 1 (subst (mono (F.getD i 0 / (pts n (n*n)).length)) wt (γ (F.getD i 0 % (pts n (n*n)).length)).2.2.2 (-(γ (F.getD i 0 % (pts n (n*n)).length)).2.1) (-(γ (F.getD i 0 % (pts n (n*n)).length)).2.2.1) (γ (F.getD i 0 % (pts n (n*n)).length)).1 (wt+1)) (img (γ (F.getD i 0 % (pts n (n*n)).length)).1 (γ (F.getD i 0 % (pts n (n*n)).length)).2.1 (γ (F.getD i 0 % (pts n (n*n)).length)).2.2.1 (γ (F.getD i 0 % (pts n (n*n)).length)).2.2.2 (0,1)) (img (γ (F.getD i 0 % (pts n (n*n)).length)).1 (γ (F.getD i 0 % (pts n (n*n)).length)).2.1 (γ (F.getD i 0 % (pts n (n*n)).length)).2.2.1 (γ (F.getD i 0 % (pts n (n*n)).length)).2.2.2 (1,0)):=λ_ _ _ _ _=>rfl
 obtain⟨g,hg⟩:∃g,γ (F.getD i 0 % (pts n (n*n)).length)=g:=⟨_,rfl⟩
 rw[hg]at g1;rw[hg]at U;obtain⟨A,B,C,E⟩:=g;dsimp only at g1 U;have hx:Cu (img A B C E (0,1)):=Bn (by omega) Cu.zero;have hy:Cu (img A B C E (1,0)):=Bn (by omega) Cu.inf;obtain⟨x,Z⟩:∃x,img A B C E (0,1)=x:=⟨_,rfl⟩
 obtain⟨y,aD⟩:∃x,img A B C E (1,0)=x:=⟨_,rfl⟩
 rw[Z]at hx;rw[aD]at hy;rw[Z,aD]at U;obtain⟨P,hP⟩:∃P,subst (mono (F.getD i 0 / (pts n (n*n)).length)) wt E (-B) (-C) A (wt+1)=P:=⟨_,rfl⟩
 rw[hP]at U;rw[U H (t*u) I J k,show dnM n n' wt D F F' X' γ t i=λm=>clG n' wt D (λj=>X' j (F'.getD m 0)) t 0 0 1 P x y from funext λm=>U n' t F' X' m];have aT:Cu (img (t:Int) 0 0 1 x):=Bn (by omega) hx;have aU:Cu (img (t:Int) 0 0 1 y):=Bn (by omega) hy;have h:=Hy V O aL hR aJ hu aN hk (subst P wt 1 (-0) (-0) t (wt+1)) aT aU;unfold clG;unfold clG at h;refine Eq.trans h ?_;rw[Iw,Eo (by omega) (by omega) hx,Eo (by omega) (by omega) hy];have e1:(1:Int)*1+-0 * -0=1:=by decide
 have e2:(1:Int) * -0+-0*(u:Int)=-0:=by grind
 have e3:(-0:Int)*1+(t:Int) * -0=-0:=by grind
 have e4:(-0:Int) * -0+(t:Int)*(u:Int)=((t*u:Nat):Int):=by push_cast;grind
 have f1:(u:Int)*(t:Int)+0*0=((t*u:Nat):Int):=by push_cast;grind
 have f2:(u:Int)*0+0*1=0:=by grind
 have f3:(0:Int)*(t:Int)+1*0=0:=by grind
 have f4:(0:Int)*0+1*1=1:=by decide
 rw[e1,e2,e3,e4,f1,f2,f3,f4]
end
section
open Go.RowKit Eli Tryz
def DnAny (n n' R L2 t:Nat) (RM:Nat->Nat->Rat) (w':World) (a b:Int) (v:Option Addr) (s c:Nat) (er:Int):Prop:=
 ((0<t/\n'*t∣n)->er=0)/\(er=0->n'*t∣n/\a=R/\b=L2/\s=R*L2/\QL (λj=>IsQ (RM (j / L2) (j % L2))) w' (.slice v (R*L2) c) (R*L2)/\∀a b,a<R->b<L2->hq (RM a b)<=430000000)
theorem DnAny.keep {n n' R H t:Nat} {I:Nat->Nat->Rat} {w w':World} {a b:Int} {v:Option Addr} {s c:Nat} {J:Int} (h:DnAny n n' R H t I w a b v s c J) (hb:Below w.heap.size w w'):DnAny n n' R H t I w' a b v s c J:=
 ⟨h.1,λe=>by
  obtain⟨O,U,V,Y,Z,h6⟩:=h.2 e;exact⟨O,U,V,Y,Z.keep (λ_=>IsQ.solid _) hb,h6⟩⟩
theorem Gb {M M' n n' wt t:Nat} {D:Int} {F F':List Nat} {C C':Nat} {X X':Nat->Nat->Rat} {γ:Nat->M4} (w:World) (hT:Tab w) (V:ModR w M n wt D F C X) (H:ModR w M' n' wt D F' C' X') (I:∀f,f∈F->f<C) (Y:D3 n γ) (ht:t<=1000000):
  Calls prog 22 #[.pointer (some ⟨M,0,none⟩),.pointer (some ⟨M',0,none⟩),.int .i64 t] w λe w'=>(∃a b v s c J,e=.returned (.tuple #[.agg #[.int .i64 a,.int .i64 b,.slice v s c],.int .i64 J])/\DnAny n n' F.length F'.length t (dnM n n' wt D F F' X' γ t) w' a b v s c J)/\Below w.heap.size w w':=by
 have aJ:=Aj V.check;have Z:=Aj H.check;by_cases hd:0<t/\n'*t∣n
 ·have h1:=Nat.le_of_dvd (by omega) hd.2
  have h2:1*t<=n'*t:=Nat.mul_le_mul_right _ (by omega);refine(Qc w hT V H I Y hd.1 (by omega) hd.2).mono ?_;rintro e w' ⟨⟨p,c,rfl,hq,hs⟩,O⟩;exact⟨⟨_,_,_,_,_,_,rfl,λ_=>rfl,λ_=>⟨hd.2,rfl,rfl,rfl,hq,hs⟩⟩,O⟩
 ·refine(Js w V H (T:=(t:Int)) (by omega) (by omega) (λh=>hd ⟨by omega,by rw[Int.toNat_natCast]at h;exact h.2⟩)).mono ?_
  rintro e w' ⟨⟨J,U,rfl⟩,O⟩;exact⟨⟨_,_,_,_,_,_,rfl,λh=>absurd h hd,λh=>absurd h U⟩,O⟩
theorem Zy (N k D L T J U:Int) (w:World) (hT:Tab w) (sI:-9223372036854775808<=T) (qD:T<=9223372036854775807) (sK:-9223372036854775808<=U) (qE:U<=9223372036854775807):
  Calls prog 5 #[.agg #[.int .i64 N,.int .i64 k,.int .i64 D,.int .i64 L,.int .i64 T],.int .i64 J,.int .i64 U] w λe w'=>e=.returned (.bool true)/\Below w.heap.size w w':=by
 obtain⟨lb,sO,sP⟩:=Eb N k D;obtain⟨rL,oR,qM⟩:=Eb L k D;obtain⟨tJ,qL,qN⟩:=Eb J k D;have rW:=Kh (λW=>Jw N k D L T lb rL W sO oR);have rX:=Kh (λW=>Jw L k D J U rL tJ W oR qL);have pD:=Kh (And.intro sP (And.intro qM qN));have HT:=Kh hT;have vZ:=Kh (And.intro (And.intro sI qD) (And.intro sK qE));clear hT sI qD sK qE sO sP oR qM qL qN;go_enter func5,ntmps5
 go_wp2_with fail
 obtain⟨w0,tE,XP,pN⟩:=bx1 w #[.int .i64 N,.int .i64 k,.int .i64 D,.int .i64 L,.int .i64 T] 44;rw[tE];refine(Lr w0 (HT.1.below pN)).mono ?_;rintro e wa ⟨rfl,rG⟩;obtain⟨p,hp⟩:∃x,w.heap.size=x:=⟨_,rfl⟩
 have rC:=XP.below_ rG XP.lt;rw[hp]at rC ⊢;have Z:=Kh rC;have nU:=Kh (pN.trans (rG.mono pN.size));clear tE XP pN rG hp rC;have p0:=Z.1.at_ 0 rfl;have p1:=Z.1.at_ 1 rfl;have p2:=Z.1.at_ 2 rfl;have p3:=Z.1.at_ 3 rfl;have p4:=Z.1.at_ 4 rfl;go_wp2_with fail
 refine(Iz N k D L T wa).mono ?_;rintro e wb ⟨rfl,rH⟩;clear p0 p1 p2 p3 p4;have mU:=Kh (bk Z rH);have nV:=bt nU rH;clear Z nU rH;go_upto_region 4 with(fail)
 obtain⟨vJ,qP⟩:∃x,wb.alloc (.cells #[.int .i64 L,.int .i64 k,.int .i64 D,.int .i64 J,.int .i64 U] 44)=x:=⟨_,rfl⟩
 obtain⟨nG,hN⟩:=Gs wb #[.int .i64 L,.int .i64 k,.int .i64 D,.int .i64 J,.int .i64 U] 44;rw[qP]at nG hN ⊢;obtain⟨q,oQ⟩:∃x,wb.heap.size=x:=⟨_,rfl⟩
 rw[oQ]at nG ⊢;have sD:=Kh nG;clear qP nG oQ;have H:=Kh (bk mU hN);have lP:=bt nV hN;clear mU nV hN;have kY:=sD;clear sD;have p0:=H.1.at_ 0 rfl;have p1:=H.1.at_ 1 rfl;have p2:=H.1.at_ 2 rfl;have p3:=H.1.at_ 3 rfl;have p4:=H.1.at_ 4 rfl;go_wp2_with fail
 refine(rW.1 vJ).mono ?_;rintro e wd ⟨rfl,pO⟩;clear p0 p1 p2 p3 p4;have mV:=Kh (bk H pO);have aK:=Kh (bk kY pO);have gS:=bt lP pO;clear H kY lP pO;cases lb with
 | true=>
  go_wp2;go_ret;exact⟨rfl,gS.1⟩
 | false=>
 cases rL with
 | true=>
  go_wp2;go_ret;exact⟨rfl,gS.1⟩
 | false=>
  have q0:=aK.1.at_ 0 rfl;have q1:=aK.1.at_ 1 rfl;have q2:=aK.1.at_ 2 rfl;have q3:=aK.1.at_ 3 rfl;have q4:=aK.1.at_ 4 rfl;go_wp2_with fail
  refine(rX.1 wd).mono ?_;rintro e vK ⟨rfl,pP⟩;clear q0 q1 q2 q3 q4;have I:=Kh (bk mV pP);have kZ:=Kh (bk aK pP);have gU:=bt gS pP;clear mV aK gS pP;cases tJ with
  | true=>
   go_wp2;go_ret;exact⟨rfl,gU.1⟩
  | false=>
   have cA:=Kh (And.intro (pD.1.1 (by simp)) (And.intro (pD.1.2.1 (by simp)) (pD.1.2.2 (by simp))));clear pD rW rX;have p0:=I.1.at_ 0 rfl;have p1:=I.1.at_ 1 rfl;have p2:=I.1.at_ 2 rfl;have p3:=I.1.at_ 3 rfl;have p4:=I.1.at_ 4 rfl;go_wp2_with fail
   refine(J0 N k D L T vK).mono ?_;rintro e wf ⟨rfl,pQ⟩;clear p0 p1 p2 p3 p4;have mW:=Kh (bk I pQ);have aL:=Kh (bk kZ pQ);have lG:=bt gU pQ;clear I kZ gU pQ;by_cases hv:Pl.check N k D=0/\Pl.check L k D=0
   case neg=>
    rw[decide_eq_false hv];clear hv;go_wp2;go_ret;exact⟨rfl,lG.1⟩
   rw[decide_eq_true hv];have HV:=Kh hv;clear hv;have q0:=aL.1.at_ 0 rfl;have q1:=aL.1.at_ 1 rfl;have q2:=aL.1.at_ 2 rfl;have q3:=aL.1.at_ 3 rfl;have q4:=aL.1.at_ 4 rfl;go_wp2_with fail
   refine(J0 L k D J U wf).mono ?_;rintro e wg ⟨rfl,pR⟩;clear q0 q1 q2 q3 q4;have aD:=Kh (bk mW pR);have nF:=Kh (bk aL pR);have aT:=bt lG pR;clear mW aL lG pR;by_cases hv:Pl.check L k D=0/\Pl.check J k D=0
   case neg=>
    rw[decide_eq_false hv];clear hv;go_wp2;go_ret;exact⟨rfl,aT.1⟩
   rw[decide_eq_true hv];have sA:=Kh hv;clear hv;have p4:=aD.1.at_ 4 rfl;by_cases h1:(1000:Int)<T
   case pos=>
    clear cA;go_wp2;all_goals first |(exfalso;omega) |(go_ret;exact⟨rfl,aT.1⟩)
   by_cases h2:(1000:Int)<U
   case pos=>
    clear cA;go_wp2;all_goals first |(exfalso;omega) |(go_ret;exact⟨rfl,aT.1⟩)
   by_cases h3:T<1
   case pos=>
    clear cA;go_wp2;all_goals first |(exfalso;omega) |(go_ret;exact⟨rfl,aT.1⟩)
   by_cases h4:U<1
   case pos=>
    clear cA;go_wp2;all_goals first |(exfalso;omega) |(go_ret;exact⟨rfl,aT.1⟩)
   obtain⟨gN,gA⟩:=HV.1;obtain⟨_,gP⟩:=sA.1;obtain⟨g1,g2,g3,g4,_,_⟩:=Aj gN;obtain⟨g5,g6,_⟩:=Aj gA;obtain⟨g7,g8,_⟩:=Aj gP;obtain⟨n,en⟩:∃n:Nat,(n:Int)=N:=⟨N.toNat,by omega⟩
   obtain⟨wt,ek⟩:∃wt:Nat,(wt:Int)+2=k:=⟨(k - 2).toNat,by omega⟩
   obtain⟨n',oI⟩:∃n:Nat,(n:Int)=L:=⟨L.toNat,by omega⟩
   obtain⟨aN,nH⟩:∃n:Nat,(n:Int)=J:=⟨J.toNat,by omega⟩
   obtain⟨t,et⟩:∃n:Nat,(n:Int)=T:=⟨T.toNat,by omega⟩
   obtain⟨u,eu⟩:∃n:Nat,(n:Int)=U:=⟨U.toNat,by omega⟩
   have sG:=cA.1.1 n wt en.symm ek.symm gN;have rE:=cA.1.2.1 n' wt oI.symm ek.symm gA;have sH:=cA.1.2.2 aN wt nH.symm ek.symm gP;rw[<-en,<-ek]at gN;rw[<-oI,<-ek]at gA;rw[<-nH,<-ek]at gP;have uR:wt<=22:=by omega
   have sQ:0<n:=by omega
   have sR:n<=120:=by omega
   have sS:0<n':=by omega
   have sT:0<aN:=by omega
   have tA:0<t:=by omega
   have tD:0<u:=by omega
   have pE:=Kh (show t<=1000/\u<=1000 by omega);have pV:=λW (hb:Below w.heap.size w W)=>Gg n wt n' D T W (HT.1.below hb) gN gA sG rE
   have pW:=λW (hb:Below w.heap.size w W)=>Gg n' wt aN D U W (HT.1.below hb) gA gP rE sH
   rw[en,ek,oI]at pV;rw[oI,ek,nH]at pW;have qG:Crd n wt D _ _:=J7 (n:=n) (wt:=wt) (D:=D) (by omega);have nJ:Crd n' wt D _ _:=J7 (n:=n') (wt:=wt) (D:=D) (by omega);have lN:∀f,f∈frs (Cb n wt D) (cntF n wt)->f<cntF n wt:=qG.low
   have lO:∀f,f∈frs (Cb n' wt D) (cntF n' wt)->f<cntF n' wt:=nJ.low
   obtain⟨F,hF⟩:∃F,frs (Cb n wt D) (cntF n wt)=F:=⟨_,rfl⟩
   obtain⟨X,hX⟩:∃X,Bk (Cb n wt D) (cntF n wt) (cntF n wt)=X:=⟨_,rfl⟩
   obtain⟨F',oK⟩:∃F,frs (Cb n' wt D) (cntF n' wt)=F:=⟨_,rfl⟩
   obtain⟨X',pM⟩:∃X,Bk (Cb n' wt D) (cntF n' wt) (cntF n' wt)=X:=⟨_,rfl⟩
   obtain⟨gF,qC⟩:∃F,frs (Cb aN wt D) (cntF aN wt)=F:=⟨_,rfl⟩
   obtain⟨lA,qF⟩:∃X,Bk (Cb aN wt D) (cntF aN wt) (cntF aN wt)=X:=⟨_,rfl⟩
   obtain⟨C,pL⟩:∃C,cntF n wt=C:=⟨_,rfl⟩
   obtain⟨C',nI⟩:∃C,cntF n' wt=C:=⟨_,rfl⟩
   obtain⟨oZ,oJ⟩:∃C,cntF aN wt=C:=⟨_,rfl⟩
   rw[hF,hX,pL,oK,pM,nI]at pV;rw[oK,pM,nI,qC,qF,oJ]at pW;rw[oK,pM]at nJ;rw[hF,pL]at lN;rw[oK,nI]at lO;have rY:=Kh pV;have rZ:=Kh pW;have nX:=Kh (And.intro lN lO);have rT:=Kh nJ;have rS:=Kh pL;have qS:=Kh (And.intro gN (And.intro gA gP));have hG:=Kh (And.intro (And.intro sQ sR) (And.intro sS (And.intro sT (And.intro tA tD))));have oH:=Kh (And.intro et eu);clear cA HV sA g1 g2 g3 g4 g5 g6 g7 g8 en ek oI nH et eu sG rE sH gN gA gP uR sQ sR sS sT tA tD pV pW qG nJ lN lO hF hX oK pM qC qF pL nI oJ;have uL:¬((1000:Int)<T):=h1;have uM:¬((1000:Int)<U):=h2;have uN:¬(T<1):=h3;have uO:¬(U<1):=h4;have p0:=aD.1.at_ 0 rfl;have p1:=aD.1.at_ 1 rfl;have p2:=aD.1.at_ 2 rfl;have p3:=aD.1.at_ 3 rfl;go_wp2_with fail
   have uF:=Kh (And.intro (And.intro h1 h2) (And.intro h3 h4));refine(rY.1 wg aT.1).mono ?_;rintro e w2 ⟨⟨M,M',rfl,pU,oU⟩,pS⟩;clear rY;clear p4 uL uM uN uO p0 p1 p2 p3 h1 h2 h3 h4;have mN:=Kh (bk aD pS);have aJ:=Kh (bk nF pS);have lD:=bt aT pS;clear aD nF aT pS;have oA:=Kh pU;have lQ:=Kh oU;clear pU oU;have q0:=aJ.1.at_ 0 rfl;have q1:=aJ.1.at_ 1 rfl;have q2:=aJ.1.at_ 2 rfl;have q3:=aJ.1.at_ 3 rfl;have q4:=aJ.1.at_ 4 rfl;go_wp2_with fail
   refine(rZ.1 w2 lD.1).mono ?_;rintro e w3 ⟨⟨M1,pF,rfl,pU,oU⟩,nK⟩;clear rZ;clear q0 q1 q2 q3 q4;have hL:=Kh (bk mN nK);have mX:=Kh (bk aJ nK);have lH:=Kh (oA.1.keep nK);have hB:=Kh (lQ.1.keep nK);have lE:=bt lD nK;clear mN aJ oA lQ lD nK;have hO:=Kh oU;clear pU oU;obtain⟨γ,pX⟩:=G6 (n:=n) hG.1.1.1;obtain⟨rP,oX⟩:=G6 (n:=n') hG.1.2.1;have rU:=Kh pX;have rV:=Kh oX;have qT:=Kh (λW (hb:Below w.heap.size w W) hm oT=>Gb (M:=M) (M':=M') (n:=n) (n':=n') (wt:=wt) (t:=t) (D:=D) (F:=F) (F':=F') (C:=C) (C':=C') (X:=X) (X':=X') (γ:=γ) W (HT.1.below hb) hm oT nX.1.1 pX (by have:=pE.1;omega));have qU:=Kh (λW (hb:Below w.heap.size w W) hm oT=>Gb (M:=M') (M':=pF) (n:=n') (n':=aN) (wt:=wt) (t:=u) (D:=D) (F:=F') (F':=gF) (C:=C') (C':=oZ) (X:=X') (X':=lA) (γ:=rP) W (HT.1.below hb) hm oT nX.1.2 oX (by have:=pE.1;omega));have nW:=Kh (λW (hb:Below w.heap.size w W) hm oT=>Gb (M:=M) (M':=pF) (n:=n) (n':=aN) (wt:=wt) (t:=t*u) (D:=D) (F:=F) (F':=gF) (C:=C) (C':=oZ) (X:=X) (X':=lA) (γ:=γ) W (HT.1.below hb) hm oT nX.1.1 pX (Nat.mul_le_mul pE.1.1 pE.1.2));rw[oH.1.1]at qT;rw[oH.1.2]at qU;clear pX oX;have p4:=hL.1.at_ 4 rfl;go_wp2_with fail
   refine(qT.1 w3 lE.1 lH.1 hB.1).mono ?_;rintro e w4 ⟨⟨a1,b1,v1,s1,c1,e1,rfl,sY⟩,lM⟩;clear qT;clear p4;have mO:=Kh (bk hL lM);have mY:=Kh (bk mX lM);have oB:=Kh (lH.1.keep lM);have lR:=Kh (hB.1.keep lM);have hP:=Kh (hO.1.keep lM);have nO:=bt lE lM;clear hL mX lH hB hO lE lM;have mD:=Kh sY;clear sY;go_wp2_with fail
   obtain⟨w5,tF⟩:∃x,w4.alloc (.cells #[.int .i64 a1,.int .i64 b1,.slice v1 s1 c1] 32)=x:=⟨_,rfl⟩
   obtain⟨pG,bE⟩:=Gs w4 #[.int .i64 a1,.int .i64 b1,.slice v1 s1 c1] 32;rw[tF]at pG bE ⊢;obtain⟨m,qH⟩:∃x,w4.heap.size=x:=⟨_,rfl⟩
   rw[qH]at pG ⊢;have sC:=Kh pG;clear tF pG qH;have mP:=Kh (bk mO bE);have mZ:=Kh (bk mY bE);have oC:=Kh (oB.1.keep bE);have hD:=Kh (lR.1.keep bE);have cT:=Kh (hP.1.keep bE);have mE:=Kh (mD.1.keep bE);have lF:=bt nO bE;clear mO mY oB lR hP mD nO bE;have mJ:=sC;clear sC;go_wp2_with fail
   refine(qU.1 w5 lF.1 hD.1 cT.1).mono ?_;rintro e w6 ⟨⟨a2,b2,v2,s2,c2,e2,rfl,sZ⟩,bC⟩;clear qU;have mQ:=Kh (bk mP bC);have nA:=Kh (bk mZ bC);have mK:=Kh (bk mJ bC);have oD:=Kh (oC.1.keep bC);have lS:=Kh (hD.1.keep bC);have hQ:=Kh (cT.1.keep bC);have mF:=Kh (mE.1.keep bC);have nP:=bt lF bC;clear mP mZ mJ oC hD cT mE lF bC;have mH:=Kh sZ;clear sZ;go_upto_region 12 with(fail)
   obtain⟨w7,tG⟩:∃x,w6.alloc (.cells #[.int .i64 a2,.int .i64 b2,.slice v2 s2 c2] 32)=x:=⟨_,rfl⟩
   obtain⟨pH,aX⟩:=Gs w6 #[.int .i64 a2,.int .i64 b2,.slice v2 s2 c2] 32;rw[tG]at pH aX ⊢;obtain⟨m2,qI⟩:∃x,w6.heap.size=x:=⟨_,rfl⟩
   rw[qI]at pH ⊢;have pY:=Kh pH;clear tG pH qI;have hM:=Kh (bk mQ aX);have nB:=Kh (bk nA aX);have hJ:=Kh (bk mK aX);have lI:=Kh (oD.1.keep aX);have lT:=Kh (lS.1.keep aX);have bB:=Kh (hQ.1.keep aX);have mG:=Kh (mF.1.keep aX);have mI:=Kh (mH.1.keep aX);have cG:=bt nP aX;clear mQ nA mK oD lS hQ mF mH nP aX;have dC:=pY;clear pY;by_cases hz1:e1=0
   case neg=>
    have hz:(e1 != 0)=true:=by rw[bne_iff_ne];exact hz1
    clear hz1;go_wp2;go_ret;exact⟨rfl,cG.1⟩
   by_cases hz2:e2=0
   case neg=>
    have hz:(e2 != 0)=true:=by rw[bne_iff_ne];exact hz2
    subst hz1;clear hz2;go_wp2;go_ret;exact⟨rfl,cG.1⟩
   subst hz1 hz2;obtain⟨sM,rfl,rfl,rfl,sU,oV⟩:=mG.1.2 rfl;obtain⟨rI,rfl,rfl,rfl,sV,oW⟩:=mI.1.2 rfl;clear mG mI
   have rJ:aN*(t*u)∣n:=by
    obtain⟨x,hx⟩:=sM;obtain⟨y,hy⟩:=rI;exact⟨y*x,by rw[hx,hy];grind⟩
   have tC:t*u<=120:=by
    have h1:=Nat.le_of_dvd hG.1.1.1 rJ;have h2:1*(t*u)<=aN*(t*u):=Nat.mul_le_mul_right _ hG.1.2.2.1;have h3:=hG.1.1.2;omega
   have tB:0<t*u:=Nat.mul_pos hG.1.2.2.2.1 hG.1.2.2.2.2
   have sL:∀i kk,i<F.length->kk<gF.length->Dt (dnM n n' wt D F F' X' γ t i) (dnM n' aN wt D F' gF lA rP u) F'.length kk=dnM n aN wt D F gF lA γ (t*u) i kk:=λi kk hi hk=>
    Wh qS.1.2.1 qS.1.2.2 rT.1 bB.1.rel rU.1 rV.1 hG.1.2.2.2.1 hG.1.2.2.2.2 rI (by
     have h1:=nX.1.1 _ (Bd hi);rw[<-rS.1,cntF]at h1;rcases Nat.eq_zero_or_pos (pts n (n*n)).length with h2|h2
     ·rw[h2,Nat.mul_zero]at h1;omega
     ·exact h2) hk
   have pA:=Kh sL;have cB:=Kh sU;have cD:=Kh sV;have qZ:=Kh oV;have rA:=Kh oW;have qV:=Kh (And.intro rJ tB);have qO:T*U=((t*u:Nat):Int):=by rw[<-oH.1.1,<-oH.1.2];push_cast;rfl
   obtain⟨TU,sJ⟩:∃x:Nat,t*u=x:=⟨_,rfl⟩
   rw[sJ]at qO nW pA qV tC;have uQ:IntKind.i64.wrap (TU:Int)=(TU:Int):=IntWalk.i64_in _ (by omega);clear sM rI sU oV sV oW rJ tB sL tC rU rV nX rT uF oH rS qS;obtain⟨R,hR⟩:∃R,F.length=R:=⟨_,rfl⟩
   obtain⟨L2,lB⟩:∃L,F'.length=L:=⟨_,rfl⟩
   obtain⟨L3,lK⟩:∃L,gF.length=L:=⟨_,rfl⟩
   obtain⟨uG,oN⟩:∃RM,dnM n n' wt D F F' X' γ t=RM:=⟨_,rfl⟩
   obtain⟨uH,oO⟩:∃RM,dnM n' aN wt D F' gF lA rP u=RM:=⟨_,rfl⟩
   obtain⟨sF,oP⟩:∃RM,dnM n aN wt D F gF lA γ TU=RM:=⟨_,rfl⟩
   rw[oN,oO,oP]at pA;rw[oN]at cB qZ;rw[oO]at cD rA;rw[oP]at nW;rw[hR,lB,lK]at pA;rw[hR,lB]at cB qZ;rw[lB,lK]at cD rA;rw[hR,lK]at nW;rw[hR,lB]at hJ;rw[lB,lK]at dC;try rw[hR]
   try rw[lB]
   try rw[lK]
   have oG:=Kh (And.intro hR (And.intro lB lK));clear hR lB lK oN oO oP sJ;have p4:=hM.1.at_ 4 rfl;go_wp2_with fail
   refine(nW.1 w7 cG.1 lI.1 bB.1).mono ?_;rintro e w8 ⟨⟨a3,b3,v3,s3,c3,e3,rfl,rK⟩,aU⟩;clear nW;clear qO uQ p4;have mR:=Kh (bk hM aU);have nC:=Kh (bk nB aU);have mL:=Kh (bk hJ aU);have hW:=Kh (bk dC aU);have oE:=Kh (lI.1.keep aU);have lU:=Kh (lT.1.keep aU);have hS:=Kh (bB.1.keep aU);have lW:=Kh (cB.1.keep (λ_=>IsQ.solid _) aU);have lY:=Kh (cD.1.keep (λ_=>IsQ.solid _) aU);have nQ:=bt cG aU;clear hM nB hJ dC lI lT bB cB cD cG aU;obtain rfl:=rK.1 ⟨qV.1.2,qV.1.1⟩;obtain⟨_,rfl,rfl,rfl,sW,nL⟩:=rK.2 rfl;have hI:=Kh sW;have uD:=Kh nL;clear rK sW nL;obtain⟨s3,nL⟩:∃x,R*L3=x:=⟨_,rfl⟩
   have hV:=Kh nL;rw[nL]at hI ⊢;clear nL;go_upto_region 15 with(fail)
   obtain⟨w9,tH⟩:∃x,w8.alloc (.cells #[.int .i64 R,.int .i64 L3,.slice v3 s3 c3] 32)=x:=⟨_,rfl⟩
   obtain⟨pI,Y⟩:=Gs w8 #[.int .i64 R,.int .i64 L3,.slice v3 s3 c3] 32;rw[tH]at pI Y ⊢;obtain⟨m3,qJ⟩:∃x,w8.heap.size=x:=⟨_,rfl⟩
   rw[qJ]at pI ⊢;have pZ:=Kh pI;clear tH pI qJ;have mS:=Kh (bk mR Y);have nD:=Kh (bk nC Y);have bA:=Kh (bk mL Y);have V:=Kh (bk hW Y);have lJ:=Kh (oE.1.keep Y);have hE:=Kh (lU.1.keep Y);have cX:=Kh (hS.1.keep Y);have cC:=Kh (lW.1.keep (λ_=>IsQ.solid _) Y);have cF:=Kh (lY.1.keep (λ_=>IsQ.solid _) Y);have mA:=Kh (hI.1.keep (λ_=>IsQ.solid _) Y);have nR:=bt nQ Y;clear mR nC mL hW oE lU hS lW lY hI nQ Y;have hZ:=pZ;clear pZ;have oM:R<=72:=by have:=lJ.1.len;rw[oG.1.1]at this;exact this
   have oL:L2<=72:=by have:=hE.1.len;rw[oG.1.2.1]at this;exact this
   have lL:L3<=72:=by have:=cX.1.len;rw[oG.1.2.2]at this;exact this
   have nZ:=Kh (dQ R L2 L3 v1 v2 c1 c2 uG uH w9 cC.1 cF.1 oM oL lL (λi q hi hq=>qZ.1 i q hi hq) (λi q hi hq=>rA.1 i q hi hq));have oS:R*L3<=72*72:=Nat.mul_le_mul oM lL;rw[hV.1]at nZ oS;have uC:=Kh oS;obtain⟨s1,oV⟩:∃x,R*L2=x:=⟨_,rfl⟩
   obtain⟨s2,oW⟩:∃x,L2*L3=x:=⟨_,rfl⟩
   rw[oV]at bA nZ cC;rw[oW]at V nZ cF;clear oM oL lL oS oV oW;have m0:=bA.1.at_ 0 rfl;have m1:=bA.1.at_ 1 rfl;have m2:=bA.1.at_ 2 rfl;have uS:=V.1.at_ 0 rfl;have uT:=V.1.at_ 1 rfl;have uU:=V.1.at_ 2 rfl;go_wp2_with fail
   refine nZ.1.mono ?_;rintro e wA ⟨⟨v4,c4,rfl,sX⟩,bY⟩;clear nZ;clear m0 m1 m2 uS uT uU;have mT:=Kh (bk mS bY);have nE:=Kh (bk nD bY);have mM:=Kh (bk bA bY);have hY:=Kh (bk V bY);have iL:=Kh (bk hZ bY);have oF:=Kh (lJ.1.keep bY);have lV:=Kh (hE.1.keep bY);have hU:=Kh (cX.1.keep bY);have lX:=Kh (cC.1.keep (λ_=>IsQ.solid _) bY);have lZ:=Kh (cF.1.keep (λ_=>IsQ.solid _) bY);have mB:=Kh (mA.1.keep (λ_=>IsQ.solid _) bY);have nS:=bt nR bY;clear mS nD bA V hZ lJ hE cX cC cF mA nR bY
   have mC:=Kh (show QL (λj=>IsQ (sF (j / L3) (j % L3))) wA (.slice v4 s3 c4) s3 from QL.eqv sX (λj hj=>by
    have h0:0<L3:=by
     rcases Nat.eq_zero_or_pos L3 with h|h
     ·have:=hV.1;rw[h,Nat.mul_zero]at this;omega
     ·exact h
    exact pA.1 _ _ (Nat.div_lt_of_lt_mul (by rw[Nat.mul_comm,hV.1];exact hj)) (Nat.mod_lt _ h0)))
   clear sX;go_upto_region 16 with(fail)
   obtain⟨wB,tI⟩:∃x,wA.alloc (.cells #[.int .i64 R,.int .i64 L3,.slice v4 s3 c4] 32)=x:=⟨_,rfl⟩
   obtain⟨pJ,O⟩:=Gs wA #[.int .i64 R,.int .i64 L3,.slice v4 s3 c4] 32;rw[tI]at pJ O ⊢;obtain⟨m4,qK⟩:∃x,wA.heap.size=x:=⟨_,rfl⟩
   rw[qK]at pJ ⊢;have qA:=Kh pJ;clear tI pJ qK;have tT:=Kh (bk mT O);have tU:=Kh (bk nE O);have tS:=Kh (bk mM O);have sB:=Kh (bk hY O);have dE:=Kh (bk iL O);have qY:=Kh (oF.1.keep O);have tP:=Kh (lV.1.keep O);have nY:=Kh (hU.1.keep O);have tQ:=Kh (lX.1.keep (λ_=>IsQ.solid _) O);have tR:=Kh (lZ.1.keep (λ_=>IsQ.solid _) O);have pB:=Kh (mB.1.keep (λ_=>IsQ.solid _) O);have pC:=Kh (mC.1.keep (λ_=>IsQ.solid _) O);have nT:=bt nS O;clear mT nE mM hY iL oF lV hU lX lZ mB mC nS O;have dY:=qA;clear qA;have qW:=Kh (λW (hm:ModR W M n wt D F C X)=>Ln M W.heap.size n ((wt:Int)+2) D F C X W hm.mod);have qX:=Kh (λW (hm:ModR W pF aN wt D gF oZ lA)=>Ln pF W.heap.size aN ((wt:Int)+2) D gF oZ lA W hm.mod);rw[oG.1.1]at qW;rw[oG.1.2.2]at qX;have uA:=Kh (λW (hb:Below wB.heap.size wB W)=>qW.1 W (qY.1.keep hb));have uB:=Kh (λW (hb:Below wB.heap.size wB W)=>qX.1 W (nY.1.keep hb))
   have uE:=Kh (λW (hb:Below wB.heap.size wB W)=>Oj R L3 (.slice v3 s3 c3) (.slice v4 s3 c4) s3 (λj=>sF (j / L3) (j % L3)) W (pB.1.keep (λ_=>IsQ.solid _) hb) (pC.1.keep (λ_=>IsQ.solid _) hb) (by have:=uC.1;omega) (λj hj=>by
    have h0:0<L3:=by
     rcases Nat.eq_zero_or_pos L3 with h|h
     ·have:=hV.1;rw[h,Nat.mul_zero]at this;omega
     ·exact h
    exact kU (uD.1 _ _ (Nat.div_lt_of_lt_mul (by rw[Nat.mul_comm,hV.1];exact hj)) (Nat.mod_lt _ h0)) (by decide)))
   clear qW qX;have uW:=dE.1.at_ 0 rfl;have uX:=dE.1.at_ 1 rfl;have uY:=dE.1.at_ 2 rfl;have vA:=dY.1.at_ 0 rfl;have vB:=dY.1.at_ 1 rfl;have vC:=dY.1.at_ 2 rfl;refine K6 (λW=>W.cell? ⟨m3,0,none⟩=some (.int .i64 R)/\W.cell? ⟨m3,1,none⟩=some (.int .i64 L3)/\W.cell? ⟨m3,2,none⟩=some (.slice v3 s3 c3)/\W.cell? ⟨m4,0,none⟩=some (.int .i64 R)/\W.cell? ⟨m4,1,none⟩=some (.int .i64 L3)/\W.cell? ⟨m4,2,none⟩=some (.slice v4 s3 c4)) (λW hb=>⟨Au hb uW,Au hb uX,Au hb uY,Au hb vA,Au hb vB,Au hb vC⟩) (λrB hHeld0=>?_);refine Al 0 ?_;refine Al 1 ?_;refine Al 2 ?_;refine Al 3 ?_;refine Al 4 ?_;refine Al 5 ?_;refine Al 6 ?_;refine Al 7 ?_;refine Al 8 ?_;refine Al 9 ?_;refine F9 10 rfl (λK hK=>?_);focus(go_simp;refine(uA.1 _ (Below.refl _ wB).drew).mono ?_;rintro e wD ⟨rfl,lC⟩;have qQ:=Kh (show Below wB.heap.size wB wD by rw[lC];exact(Below.refl _ wB).drew);clear lC;(first|with_reducible refine hK.out _ _ ?_ (λhHeld1=>?_) |(go_wp2_with fail;with_reducible refine hK.out _ _ ?_ (λhHeld1=>?_))))
   focus((try dsimp only);exact rB.1 _ qQ.1)
   focus(clear hK K;(try simp only[Act.put,Br,Bt,Bs]))
   refine Al 11 ?_;refine Al 12 ?_;refine Al 13 ?_;refine Al 14 ?_;refine Al 15 ?_;refine Al 16 ?_;refine F9 17 rfl (λK hK=>?_);focus(go_simp;refine(uB.1 _ qQ.1).mono ?_;rintro e wE ⟨rfl,lC⟩;have qR:=Kh (show Below wB.heap.size wB wE by rw[lC];exact qQ.1);clear lC;(first|with_reducible refine hK.out _ _ ?_ (λhHeld2=>?_) |(go_wp2_with fail;with_reducible refine hK.out _ _ ?_ (λhHeld2=>?_))))
   focus((try dsimp only);exact rB.1 _ qR.1)
   focus(clear hK K;(try simp only[Act.put,Br,Bt,Bs]))
   refine Al 18 ?_;refine Al 19 ?_;refine Al 20 ?_;refine Al 21 ?_;refine Al 22 ?_;refine F9 23 rfl (λK hK=>?_);focus(go_simp;refine(uE.1 _ qR.1).mono ?_;rintro e wF ⟨rfl,lC⟩;have rR:=bt qR lC;clear lC;(first|with_reducible refine hK.out _ _ ?_ (λhHeld3=>?_) |(go_wp2_with fail;with_reducible refine hK.out _ _ ?_ (λhHeld3=>?_))))
   focus((try dsimp only);exact rB.1 _ rR.1)
   focus(clear hK K;(try simp only[Act.put,Br,Bt,Bs]))
   refine Al 24 ?_;refine K5 25 rfl (λK hK=>?_);go_simp
   refine hK.out _ _ ?_;clear hK K
   (try simp only[Act.put,Br,Bt,Bs])
   go_wp2;go_ret;exact⟨rfl,nT.1.trans (rR.1.mono nT.1.size)⟩
end
end Go.Proofs.YtenlbhlllgppmaaGreatDoor
