/- halfplanebase.Rows of one row of one number. -/
import Derived.Test.YtenlbhlllgppmaaGreatDoorA32
set_option linter.unusedSimpArgs false
set_option maxRecDepth 100000
set_option maxHeartbeats 8000000
namespace Go.Proofs.YtenlbhlllgppmaaGreatDoor
section
open Go.RowKit Eli Tryz
theorem lC (z:Int) (g2 g1:Nat) (w:World) (h2:g2<w.heap.size) (h1:g1<w.heap.size) (gY:w.cell? ⟨g2,0,none⟩=some (.slice (some ⟨g1,0,none⟩) 1 1)) (gX:w.cell? ⟨g1,0,none⟩=some (.int .i64 z)) (hz:-2147483648<=z/\z<=2147483648):
  Calls prog 45 #[.slice (some ⟨g2,0,none⟩) 1 1] w λe w'=>(∃p c,e=.returned (.agg #[.int .i64 1,.int .i64 1,.slice p 1 c])/\QL (λ_=>IsQ (z:Rat)) w' (.slice p 1 c) 1)/\Below w.heap.size w w':=by
 go_enter func45,ntmps45
 go_wp2_with fail
 obtain⟨wx,hJ,X0,Y0,gU⟩:=bx2 w #[.int .i64 0,.int .i64 0,.slice none 0 0] 32 #[.int .i64 1,.int .i64 0,.slice none 0 0] 32;rw[hJ];obtain⟨M,bB⟩:∃x,w.heap.size=x:=⟨_,rfl⟩
 obtain⟨J,dE⟩:∃x,M+1=x:=⟨_,rfl⟩
 have gN:=Kh bB;have cF:=Kh (show Below M w wx from bB▸gU);rw[bB]at X0 Y0 h1 h2;rw[dE]at Y0;try rw[bB]
 try rw[dE]
 have U:=Kh (show M<J by omega);have Z:=Kh X0;have HY:=Kh Y0;obtain⟨BB,cY⟩:∃x,wx.heap.size=x:=⟨_,rfl⟩
 have bH:=Kh cY;have bA:=Kh (show J<BB from cY▸Y0.lt);have gF:=Kh ((cF.1.cell (p:=⟨g2,0,none⟩) h2).trans gY);have hP:=Kh ((cF.1.cell (p:=⟨g1,0,none⟩) h1).trans gX);have mB:=Kh hz;have cT:=Kh (And.intro h1 h2);clear hJ X0 Y0 gU cY gY gX hz h1 h2 bB dE;go_loopw [4] (λii wr=>∃k:Nat,ii=.int .i64 k/\((k=0/\wr=wx)∨(k=1/\MatAt (λ_=>IsQ (z:Rat)) wr J BB 1 1 1/\wx.grownBy wr (some J)))) (λii _=>1 - (intOf ii).toNat)
 case atStart=>exact⟨0,rfl,.inl ⟨rfl,rfl⟩⟩
 case round=>
  obtain⟨k,rfl,⟨rfl,rfl⟩ |⟨rfl,aN,aD⟩⟩:=hrel
  ·have l1:=gF.1
   have y0:=HY.1.at_ 0 rfl;have y1:=HY.1.at_ 1 rfl;have q1:=HY.1.free_ 1;go_upto_region 6 with(fail)
   clear l1;obtain⟨I,O⟩:∃I,wr.setCell ⟨J,1,none⟩ (.int .i64 1)=I:=⟨_,rfl⟩
   have cB:wr.grownBy I (some J):=O▸Ai wr J 1 _;have cD:Stk NotU32 I J:=O▸Bc (Stk.of HY.1 (by intro v hv;simp at hv;rcases hv with rfl|rfl|rfl <;> exact λ_ h=>by cases h)) _ _ (λ_ h=>by cases h);have x0:I.cell? ⟨J,0,none⟩=some (.int .i64 1):=by rw[<-O,World.cell?_setCell_other _ _ _ _ (by simp)];exact y0
   have x1:I.cell? ⟨J,1,none⟩=some (.int .i64 1):=by rw[<-O];exact World.cell?_setCell_same' _ _ _ (by rw[y1];rfl)
   have x2:I.cell? ⟨J,2,none⟩=some (.slice none 0 0):=by rw[<-O,World.cell?_setCell_other _ _ _ _ (by simp)];exact HY.1.at_ 2 rfl
   have f2:I.frozen? ⟨J,2,none⟩=false:=O▸At (HY.1.free_ 2);have mE:I.heap.size=BB:=by rw[<-O,<-bH.1];simp
   have l1:I.cell? ⟨g2,0,none⟩=some (.slice (some ⟨g1,0,none⟩) 1 1):=cB.cell gF.1 (λe=>by injection e with e;have h1:=cT.1;have h2:=U.1;have h3:g2=J:=e;omega);have hB:I.cell? ⟨g1,0,none⟩=some (.int .i64 z):=cB.cell hP.1 (λe=>by injection e with e;have h1:=cT.1;have h2:=U.1;have h3:g1=J:=e;omega);rw[O];have hO:=Kh (show BB<=I.heap.size by omega);have mA:=Kh x2;have cV:=Kh (show ∀j:Nat,Bh ((λ_=>IsQ (z:Rat)) j)from λ_=>IsQ.solid _);have hV:=Kh (show MatAt (λ_=>IsQ (z:Rat)) I J BB 1 1 0 from⟨bA.1,by omega,x0,x1,⟨none,0,x2,OwnQ.nil _ _ _⟩,f2,cD⟩);have hS:=Kh cB;have hY:=Kh (λW (hb:Below I.heap.size I W)=>jF g1 1 1 (λ_=>z) W (mI (show g1<I.heap.size by have:=cT.1;have:=U.1;have:=bA.1;omega) hb.size) (λj hj=>by rw[show j=0 by omega];exact cell_next hb hB) (λ_ _=>mB.1) (by decide));clear O cB cD x0 x1 mE hB y0 y1 q1;refine K6 (λW=>W.cell? ⟨g2,0,none⟩=some (.slice (some ⟨g1,0,none⟩) 1 1)/\W.cell? ⟨J,2,none⟩=some (.slice none 0 0)/\W.frozen? ⟨J,2,none⟩=false) (λW hb=>⟨Au hb l1,Au hb x2,Ac hb (by rw[x2];rfl) (f2)⟩) (λhZ hHeld0=>?_);refine Al 0 ?_;refine Al 1 ?_;refine Al 2 ?_;refine Al 3 ?_;refine Al 4 ?_;refine Al 5 ?_;refine F9 6 rfl (λK hK=>?_);focus(go_simp;(refine(hY.1 I.drew (Below.refl _ I).drew).mono ?_);rintro e w5 ⟨⟨v5,rfl,hE⟩,gS⟩;obtain⟨g5,c5,rfl,_,bC⟩:=hE.row.resolve_left (λh=>absurd h.1 (by decide));have aX:=Kh ((Below.refl _ I).drew.trans gS:Below I.heap.size I w5);have bY:=Kh bC;clear hE bC gS;(first|with_reducible refine hK.out _ _ ?_ (λhHeld1=>?_) |(go_wp2_with fail;with_reducible refine hK.out _ _ ?_ (λhHeld1=>?_))))
   focus((try dsimp only);exact hZ.1 _ aX.1)
   focus(clear hK K;(try simp only[Act.put,Br,Bt,Bs]))
   refine F9 7 rfl (λK hK=>?_);focus(refine fY (W:=w5) NotInt rfl (.tmp 21) (.tmp 26) _ 86 rfl underlying30 F1 rfl (by decide) BB 0 1 g5 c5 (.slice none 0 0) [] (Ax w5 g5 (1*4)) (by rfl) (OwnK.nil _ _ _ _ _) (by rfl) (Ce _ _ _) bY.1.cells bY.1.one (by omega) (by omega) (mH hO.1 aX.1.size) bY.1.ni iK ?_;intro v9 w9 aK Y;obtain⟨p9,c9,rfl⟩:=Bf aK.1;have hW:=Kh (OwnQ.more cV.1 (OwnK.nil _ _ _ _ _) (λj hj=>absurd hj (Nat.not_lt_zero _)) bY.1 aK Y (λj _=>rfl));obtain⟨d2,df,hD⟩:=MatAt.more cV.1 (hV.1.keep cV.1 aX.1) (cell_next aX.1 mA.1) (World.ownsRow_nil _ _ _ _) hW.1 Y;have hU:=Kh hD;have iL:=Kh (And.intro (Y.cell (cell_next aX.1 l1) (λe=>by cases e)) (And.intro d2 df));have hR:=Kh ((Hz (hS.1.trans (Af J aX.1)) Y bH.1.symm (λb hb=>by cases hb)).trans (Ai w9 J 2 (.slice p9 (0+1) c9)));clear hD aK Y d2 df;(first|with_reducible refine hK.out _ _ ?_ (λhHeld2=>?_) |(go_wp2_with fail;with_reducible refine hK.out _ _ ?_ (λhHeld2=>?_))))
   focus((try dsimp only);exact iL.1)
   focus(clear hK K;(try simp only[Act.put,Br,Bt,Bs]))
   refine Al 8 ?_;refine K5 9 rfl (λK hK=>?_);go_simp
   refine hK.out _ _ ?_;clear hK K
   (try simp only[Act.put,Br,Bt,Bs])
   all_goals go_wp2
   all_goals go_roundw
   all_goals first
    | exact⟨1,by go_num,.inr ⟨rfl,hU.1,hR.1⟩⟩
    |(simp[intOf];done)
  ·obtain⟨p,c,nB,dC⟩:=aN.c2
   have a0:=aN.c0;have a1:=aN.c1;have cA:M≠J:=Nat.ne_of_lt U.1;have V:=aD.block M (by have:=bH.1;have:=bA.1;have:=U.1;omega) (λe=>by injection e with e;exact cA e);have r0:=aD.cell (Z.1.at_ 0 rfl) (λe=>by injection e with e;exact cA e);have r1:=aD.cell (Z.1.at_ 1 rfl) (λe=>by injection e with e;exact cA e);have r2:=aD.cell (Z.1.at_ 2 rfl) (λe=>by injection e with e;exact cA e);have f0:wr.frozen? ⟨M,0,none⟩=false:=(World.frozen?_of_block (a:=⟨M,0,none⟩) V).trans (Z.1.free_ 0);have f1:wr.frozen? ⟨M,1,none⟩=false:=(World.frozen?_of_block (a:=⟨M,1,none⟩) V).trans (Z.1.free_ 1);have f2:wr.frozen? ⟨M,2,none⟩=false:=(World.frozen?_of_block (a:=⟨M,2,none⟩) V).trans (Z.1.free_ 2);have bE:Stk NotU32 wx M:=Stk.of Z.1 (by intro v hv;simp at hv;rcases hv with rfl|rfl|rfl <;> exact λ_ h=>by cases h);have hG:Stk NotU32 wr M:=⟨mI bE.1 aD.size,λi u hu=>bE.2 i u ((World.cell?_of_block (a:=⟨M,i,none⟩) V).symm.trans hu)⟩
   have cG:=Kh (Hy (w:=wr) (R:=M) (v0:=.int .i64 1) (v1:=.int .i64 1) (v2:=.slice p 1 c) (by rw[r0];rfl) (by rw[r1];rfl) (by rw[r2];rfl));have hT:=Kh (Hi hG (v0:=.int .i64 1) (v1:=.int .i64 1) (v2:=.slice p 1 c) (λ_ h=>by cases h) (λ_ h=>by cases h));have gL:=Kh (((Ai wr M 0 (.int .i64 1)).trans (Ai _ M 1 (.int .i64 1))).trans (Ai _ M 2 (.slice p 1 c)));have hX:=Kh dC.ql;have hQ:=Kh (Xp dC);have gA:=Kh (show Below M w wr from An cF.1 aD (by have:=bH.1;have:=bA.1;have:=U.1;omega) (Nat.le_of_lt U.1));clear dC V bE hG aN aD;go_wp2;have e0:=cG.1.1;have e1:=cG.1.2.1;have e2:=cG.1.2.2;try simp only[Exit.inBlock,Exit.then]
   refine bodyPost_ret (by simp[results,results45,go_sem,e0,e1,e2];try rfl) rfl ?_;exact⟨⟨p,c,rfl,hX.1.boxed (λ_=>IsQ.solid _) hT.1 gL.1 (λa ha=>by have:=hQ.1 a ha;have:=bA.1;have:=U.1;omega)⟩,by rw[gN.1];exact An gA.1 gL.1 (by have:=gA.1.size;have:=gN.1;omega) (mG _)⟩
theorem Oj (R C:Int) (v1 v2:Value) (n:Nat) (f:Nat->Rat) (w:World) (Z:QL (λj=>IsQ (f j)) w v1 n) (h:QL (λj=>IsQ (f j)) w v2 n) (hn:n<=1000000) (hf:∀j,j<n->hq (f j)<=35184372088830):
  Calls prog 17 #[.agg #[.int .i64 R,.int .i64 C,v1],.agg #[.int .i64 R,.int .i64 C,v2]] w λe w'=>e=.returned (.bool true)/\Below w.heap.size w w':=by
 obtain⟨p1,c1,rfl⟩:=Fk Z;obtain⟨p2,c2,rfl⟩:=Fk h;have Y:=Kh (λW (hb:Below w.heap.size w W)=>Dz (.slice p1 n c1) (.slice p2 n c2) n f W (Z.keep (λ_=>IsQ.solid _) hb) (h.keep (λ_=>IsQ.solid _) hb) hn hf);clear Z h hf;go_enter func17,ntmps17
 go_upto_region 1 with(fail)
 obtain⟨w0,M,O,U,I⟩:=bx2 w #[.int .i64 R,.int .i64 C,.slice p1 n c1] 32 #[.int .i64 R,.int .i64 C,.slice p2 n c2] 32;rw[M];have a0:=O.at_ 0 rfl;have a1:=O.at_ 1 rfl;have a2:=O.at_ 2 rfl;have b0:=U.at_ 0 rfl;have b1:=U.at_ 1 rfl;have b2:=U.at_ 2 rfl;clear M O U;go_wp2_with fail
 refine(Y.1 w0 I).mono ?_;rintro e w1 ⟨rfl,J⟩;have V:=Kh (I.trans (J.mono I.size));clear J I a0 a1 a2 b0 b1 b2;go_wp2;go_ret;exact⟨rfl,V.1⟩
theorem Pf (a b c d I J M O:Int) (w:World) (ha:a.natAbs<=100000) (hb:b.natAbs<=100000) (hc:c.natAbs<=100000) (hd:d.natAbs<=100000) (U:I.natAbs<=100000) (V:J.natAbs<=100000) (Y:M.natAbs<=100000) (Z:O.natAbs<=100000):
  Calls prog 34 #[.agg #[.int .i64 a,.int .i64 b,.int .i64 c,.int .i64 d],.agg #[.int .i64 I,.int .i64 J,.int .i64 M,.int .i64 O]] w λe w'=>e=.returned (.agg #[.int .i64 (a*I+b*M),.int .i64 (a*J+b*O),.int .i64 (c*I+d*M),.int .i64 (c*J+d*O)])/\Below w.heap.size w w':=by
 have q0:=Gb ha U;have r0:=Gb hb Y;obtain⟨P0,bA⟩:∃P,a*I=P:=⟨_,rfl⟩
 obtain⟨Q0,bG⟩:∃P,b*M=P:=⟨_,rfl⟩
 obtain⟨h,gA⟩:∃P,P0+Q0=P:=⟨_,rfl⟩
 rw[bA]at q0;rw[bG]at r0;have hU:IntKind.i64.wrap P0=P0:=IntWalk.i64_in _ (by omega);have hV:IntKind.i64.wrap Q0=Q0:=IntWalk.i64_in _ (by omega);have hW:IntKind.i64.wrap h=h:=IntWalk.i64_in _ (by omega);have q1:=Gb ha V;have r1:=Gb hb Z;obtain⟨P1,bB⟩:∃P,a*J=P:=⟨_,rfl⟩
 obtain⟨Q1,bH⟩:∃P,b*O=P:=⟨_,rfl⟩
 obtain⟨S1,gF⟩:∃P,P1+Q1=P:=⟨_,rfl⟩
 rw[bB]at q1;rw[bH]at r1;have hX:IntKind.i64.wrap P1=P1:=IntWalk.i64_in _ (by omega);have hY:IntKind.i64.wrap Q1=Q1:=IntWalk.i64_in _ (by omega);have hZ:IntKind.i64.wrap S1=S1:=IntWalk.i64_in _ (by omega);have q2:=Gb hc U;have r2:=Gb hd Y;obtain⟨P2,bC⟩:∃P,c*I=P:=⟨_,rfl⟩
 obtain⟨Q2,bY⟩:∃P,d*M=P:=⟨_,rfl⟩
 obtain⟨S2,gL⟩:∃P,P2+Q2=P:=⟨_,rfl⟩
 rw[bC]at q2;rw[bY]at r2;have iL:IntKind.i64.wrap P2=P2:=IntWalk.i64_in _ (by omega);have mA:IntKind.i64.wrap Q2=Q2:=IntWalk.i64_in _ (by omega);have mB:IntKind.i64.wrap S2=S2:=IntWalk.i64_in _ (by omega);have q3:=Gb hc V;have r3:=Gb hd Z;obtain⟨P3,bE⟩:∃P,c*J=P:=⟨_,rfl⟩
 obtain⟨Q3,cA⟩:∃P,d*O=P:=⟨_,rfl⟩
 obtain⟨S3,gN⟩:∃P,P3+Q3=P:=⟨_,rfl⟩
 rw[bE]at q3;rw[cA]at r3;have mC:IntKind.i64.wrap P3=P3:=IntWalk.i64_in _ (by omega);have mD:IntKind.i64.wrap Q3=Q3:=IntWalk.i64_in _ (by omega);have mE:IntKind.i64.wrap S3=S3:=IntWalk.i64_in _ (by omega);have cB:=Kh (And.intro (And.intro (And.intro bA bG) gA) (And.intro (And.intro (And.intro bB bH) gF) (And.intro (And.intro (And.intro bC bY) gL) (And.intro (And.intro bE cA) gN))));clear q0 r0 q1 r1 q2 r2 q3 r3 ha hb hc hd U V Y Z;go_enter func34,ntmps34
 go_wp2_with fail
 have hz:((w.alloc (.cells #[.int .i64 a,.int .i64 b,.int .i64 c,.int .i64 d] 63)).alloc (.cells #[.int .i64 I,.int .i64 J,.int .i64 M,.int .i64 O] 63)).heap.size=w.heap.size+1+1:=by simp
 have HB:=Kh ((((Below.refl w.heap.size w).alloc (mG _) (.cells #[.int .i64 a,.int .i64 b,.int .i64 c,.int .i64 d] 63)).alloc (by simp) (.cells #[.int .i64 I,.int .i64 J,.int .i64 M,.int .i64 O] 63)).alloc (by simp;omega) (.cells #[.int .i64 h,.int .i64 S1,.int .i64 S2,.int .i64 S3] 63));have XE:=Blk.new ((w.alloc (.cells #[.int .i64 a,.int .i64 b,.int .i64 c,.int .i64 d] 63)).alloc (.cells #[.int .i64 I,.int .i64 J,.int .i64 M,.int .i64 O] 63)) 63 #[.int .i64 h,.int .i64 S1,.int .i64 S2,.int .i64 S3];rw[hz]at XE;have e0:=XE.at_ 0 rfl;have e1:=XE.at_ 1 rfl;have e2:=XE.at_ 2 rfl;have e3:=XE.at_ 3 rfl;try simp only[Exit.inBlock,Exit.then]
 refine bodyPost_ret (v:=.agg #[.int .i64 h,.int .i64 S1,.int .i64 S2,.int .i64 S3]) (by simp[results,results34,go_sem,e0,e1,e2,e3];try rfl) rfl ?_;obtain⟨⟨⟨e1,e2⟩,e3⟩,⟨⟨e4,e5⟩,e6⟩,⟨⟨e7,e8⟩,e9⟩,⟨dE,dX⟩,dY⟩:=cB.1;exact⟨by rw[e1,e2,e3,e4,e5,e6,e7,e8,e9,dE,dX,dY],HB.1⟩
theorem lL (n wt:Nat) (D:Int) (w:World) (V:Tab w) (I:Pl.check n ((wt:Int)+2) D=0) (O:cntF n wt<=72):
  Calls prog 11 #[.agg #[.int .i64 n,.int .i64 ((wt:Int)+2),.int .i64 D]] w λe w'=>(∃M,e=.returned (.tuple #[.pointer (some ⟨M,0,none⟩),.int .i64 0])/\ModR w' M n wt D (frs (Cb n wt D) (cntF n wt)) (cntF n wt) (Bk (Cb n wt D) (cntF n wt) (cntF n wt))/\∀v g,w'.cell? ⟨M,3,none⟩=some v->v.ownBlock=some g->w.heap.size<=g)/\Below w.heap.size w w':=by
 obtain⟨h,h2,h3,h4,_,_⟩:=Aj I;refine(gE n wt D w V I O).mono ?_;rintro e w' ⟨⟨M,rfl,J,Z⟩,U⟩;exact⟨⟨M,rfl,⟨I,rfl,mH (Em _ _) O,Z,λj f Y J=>mH (Qu (by omega) O Y J) (by omega),λf J=>Nt (by omega) J⟩,J.2⟩,U⟩
theorem ModR.box {w w':World} {M n wt R:Nat} {D:Int} {F:List Nat} {C:Nat} {X:Nat->Nat->Rat} {i:Int} {v:Value} (h:ModR w M n wt D F C X) (h0:w.cell? ⟨R,0,none⟩=some (.int .i64 i)) (h2:w.cell? ⟨R,2,none⟩=some v) (hv:∀k z,v≠.int k z) (hf:∀u g,w.cell? ⟨M,3,none⟩=some u->u.ownBlock=some g->g≠R) (aD:I32 w w') (hg:w.grownBy w' (some R)):ModR w' M n wt D F C X:=by
 refine⟨h.check,h.cnt,h.len,?_,h.size,h.rel⟩;have O:=h.mod
 have V:M≠R:=λe=>by
  have:=O.c2;rw[e,h2]at this;injection this with this
  exact hv _ _ this
 have U:∀g i u,g≠R->w.cell? ⟨g,i,none⟩=some u->w'.cell? ⟨g,i,none⟩=some u:=λg i u bB e=>hg.cell e (λI=>by injection I with I;exact bB I)
 obtain⟨u,e3,h3⟩:=O.c3;obtain⟨GR,e4,hG,h4⟩:=O.c4;have bC:=hg.size;refine ModAt.up (B:=w.heap.size) ⟨O.lt,U _ _ _ V O.c0,U _ _ _ V O.c1,U _ _ _ V O.c2,⟨u,U _ _ _ V e3,h3.but hg (λg bA=>hf u g e3 bA)⟩,GR,U _ _ _ V e4,hG,λj hj=>?_⟩ bC;obtain⟨g,e,aN,hq⟩:=h4 j hj
 have aK:GR≠R:=λI=>by
  obtain⟨g0,Y,_⟩:=h4 0 (by omega);rw[I,h0]at Y;injection Y with Y
  cases Y
 refine⟨g,U _ _ _ aK e,aN,λi f J=>?_⟩
 have aX:g≠R:=λI=>by
  have hl:0<F.length:=by
   rcases Nat.eq_zero_or_pos F.length with h|h
   ·rw[List.getElem?_eq_none (by omega)]at J;cases J
   ·exact h
  obtain⟨s,p,n,c,t,q,m,d,Z,_⟩:=hq 0 (F[0]) (List.getElem?_eq_getElem hl);rw[I,Nat.zero_mul,h0]at Z;injection Z with Z
  cases Z
 exact(hq i f J).butR aD hg aX
theorem WAny.keep {n wt R:Nat} {D q:Int} {F:List Nat} {X:Nat->Nat->Rat} {γ:Nat->M4} {w w':World} {a b:Int} {v:Option Addr} {s c:Nat} {I:Int} (h:WAny n wt R D q F X γ w a b v s c I) (hb:Below w.heap.size w w'):WAny n wt R D q F X γ w' a b v s c I:=
 ⟨h.1,λe=>by
  obtain⟨m,A,B,C,E,J,M,O,U,V,Y,Z,h8⟩:=h.2 e;exact⟨m,A,B,C,E,J,M,O,U,V,Y,Z.keep (λ_=>IsQ.solid _) hb,h8⟩⟩
theorem WAny.i32 {n wt R:Nat} {D q:Int} {F:List Nat} {X:Nat->Nat->Rat} {γ:Nat->M4} {w w':World} {a b:Int} {v:Option Addr} {s c:Nat} {I:Int} (h:WAny n wt R D q F X γ w a b v s c I) (hk:∀f:Nat->Rat,QL (λj=>IsQ (f j)) w (.slice v s c) s->QL (λj=>IsQ (f j)) w' (.slice v s c) s):WAny n wt R D q F X γ w' a b v s c I:=
 ⟨h.1,λe=>by
  obtain⟨m,A,B,C,E,J,M,O,U,V,Y,Z,h8⟩:=h.2 e;subst Y;exact⟨m,A,B,C,E,J,M,O,U,V,rfl,hk _ Z,h8⟩⟩
theorem QL.nobool {f:Nat->Rat} {w w':World} {v:Value} {n R:Nat} (h:QL (λj=>IsQ (f j)) w v n) (U:Stk (λv=>∀b,v≠.bool b) w R) (O:I32 w w') (hg:w.grownBy w' (some R)):QL (λj=>IsQ (f j)) w' v n:=by
 rcases Nat.eq_zero_or_pos n with I|I
 ·rcases h with h |⟨g,o,c,J,M,h3⟩
  ·exact .inl h
  ·exact .inl ⟨I,_,_,by rw[J,I]⟩
 ·obtain⟨g,o,cap,rfl,J,M⟩:=h.resolve_left (λh=>by omega)
  have V:g≠R:=λe=>by
   obtain⟨s,p,n',c,t,q,m',d,Y,_⟩:=M 0 I;rw[e]at Y;exact U.2 _ _ Y _ rfl
  exact .inr ⟨g,o,cap,rfl,mI J hg.size,λj Z=>(M j Z).butR O hg V⟩
theorem Oa {w:World} {g:Nat} (h:Blk w g 32 #[.int .i64 0,.int .i64 0,.slice none 0 0]):Stk (λv=>∀b,v≠.bool b) w g:=Stk.of h (by intro v I;simp at I;rcases I with rfl|rfl|rfl <;> exact λ_ h=>by cases h)
theorem kW {w:World} {g:Nat} (h:Blk w g 32 #[.int .i64 0,.int .i64 0,.slice none 0 0]):Stk NotU32 w g:=Stk.of h (by intro v I;simp at I;rcases I with rfl|rfl|rfl <;> exact λ_ h=>by cases h)
theorem Ru {n wt M C J I B:Nat} {D q r:Int} {F:List Nat} {X:Nat->Nat->Rat} {γ:Nat->M4} {w0 w W:World} {Z b1 a2 b2 e1 e2:Int} {v1 v2:Option Addr} {s1 c1 s2 c2:Nat}
  (hW:(((((((w.setCell ⟨J,0,none⟩ (.int .i64 Z)).setCell ⟨J,1,none⟩ (.int .i64 b1)).setCell ⟨J,2,none⟩ (.slice v1 s1 c1)).setCell ⟨I,0,none⟩ (.int .i64 a2)).setCell ⟨I,1,none⟩ (.int .i64 b2)).setCell ⟨I,2,none⟩ (.slice v2 s2 c2)).drew)=W)
  (hu:Blk w J 32 #[.int .i64 0,.int .i64 0,.slice none 0 0]) (hz:Blk w I 32 #[.int .i64 0,.int .i64 0,.slice none 0 0]) (bH:J≠I) (h1:B<=J) (h2:B<=I) (hB:B<=w.heap.size) (hb:Below B w0 w) (hm:ModR w M n wt D F C X) (hf:∀u g,w.cell? ⟨M,3,none⟩=some u->u.ownBlock=some g->g≠J/\g≠I)
  (k1:WAny n wt F.length D q F X γ w Z b1 v1 s1 c1 e1) (k2:WAny n wt F.length D r F X γ w a2 b2 v2 s2 c2 e2):
  (W.cell? ⟨J,0,none⟩=some (.int .i64 Z)/\W.cell? ⟨J,1,none⟩=some (.int .i64 b1)/\W.cell? ⟨J,2,none⟩=some (.slice v1 s1 c1)/\W.cell? ⟨I,0,none⟩=some (.int .i64 a2)/\W.cell? ⟨I,1,none⟩=some (.int .i64 b2)/\W.cell? ⟨I,2,none⟩=some (.slice v2 s2 c2))/\ModR W M n wt D F C X/\WAny n wt F.length D q F X γ W Z b1 v1 s1 c1 e1/\WAny n wt F.length D r F X γ W a2 b2 v2 s2 c2 e2/\Below B w0 W:=by
 have x0:=hu.at_ 0 rfl;have x1:=hu.at_ 1 rfl;have x2:=hu.at_ 2 rfl;obtain⟨p,hp⟩:∃p,((w.setCell ⟨J,0,none⟩ (.int .i64 Z)).setCell ⟨J,1,none⟩ (.int .i64 b1)).setCell ⟨J,2,none⟩ (.slice v1 s1 c1)=p:=⟨_,rfl⟩
 have e3:=Hy (w:=w) (R:=J) (v0:=.int .i64 Z) (v1:=.int .i64 b1) (v2:=.slice v1 s1 c1) (by rw[x0];rfl) (by rw[x1];rfl) (by rw[x2];rfl);have i3:=Hi (kW hu) (v0:=.int .i64 Z) (v1:=.int .i64 b1) (v2:=.slice v1 s1 c1) (λ_ h=>by cases h) (λ_ h=>by cases h);have V:=((Ai w J 0 (.int .i64 Z)).trans (Ai _ J 1 (.int .i64 b1))).trans (Ai _ J 2 (.slice v1 s1 c1));rw[hp]at e3 i3 V hW;have O:Blk p I 32 #[.int .i64 0,.int .i64 0,.slice none 0 0]:=(V.block I hz.lt (λe=>by injection e with e;exact bH e.symm)).trans hz;have y0:=O.at_ 0 rfl;have y1:=O.at_ 1 rfl;have y2:=O.at_ 2 rfl;have cV:=hm.box x0 x2 (λ_ _ h=>by cases h) (λu g h1 h2=>(hf u g h1 h2).1) i3 V
 have hM:M≠J:=λe=>by
  have:=hm.mod.c2;rw[e,x2]at this;injection this with this
  cases this
 have j1:=k1.i32 (w':=p) (λf h=>h.nobool (Oa hu) i3 V);have j2:=k2.i32 (w':=p) (λf h=>h.nobool (Oa hu) i3 V);obtain⟨s,hs⟩:∃s,((p.setCell ⟨I,0,none⟩ (.int .i64 a2)).setCell ⟨I,1,none⟩ (.int .i64 b2)).setCell ⟨I,2,none⟩ (.slice v2 s2 c2)=s:=⟨_,rfl⟩
 have e6:=Hy (w:=p) (R:=I) (v0:=.int .i64 a2) (v1:=.int .i64 b2) (v2:=.slice v2 s2 c2) (by rw[y0];rfl) (by rw[y1];rfl) (by rw[y2];rfl);have i6:=Hi (kW O) (v0:=.int .i64 a2) (v1:=.int .i64 b2) (v2:=.slice v2 s2 c2) (λ_ h=>by cases h) (λ_ h=>by cases h);have Y:=((Ai p I 0 (.int .i64 a2)).trans (Ai _ I 1 (.int .i64 b2))).trans (Ai _ I 2 (.slice v2 s2 c2));rw[hs]at e6 i6 Y hW
 have cX:=cV.box y0 y2 (λ_ _ h=>by cases h) (λu g h1 h2=>by
  obtain⟨u',e',_⟩:=hm.mod.c3;have h3:=V.cell e' (λe=>by injection e with e;exact hM e);rw[h3]at h1;injection h1 with h1
  subst h1;exact(hf _ g e' h2).2) i6 Y
 have l1:=j1.i32 (w':=s) (λf h=>h.nobool (Oa O) i6 Y);have l2:=j2.i32 (w':=s) (λf h=>h.nobool (Oa O) i6 Y);have U:Below s.heap.size s W:=by rw[<-hW];exact(Below.refl _ _).drew
 have bC:(some J:Option Nat)≠some I:=λe=>by injection e with e;exact bH e
 have cD:=An hb V hB h1;have cF:=An cD Y (mH hB V.size) h2;exact⟨⟨cell_next U (Y.cell e3.1 bC),cell_next U (Y.cell e3.2.1 bC),cell_next U (Y.cell e3.2.2 bC),cell_next U e6.1,cell_next U e6.2.1,cell_next U e6.2.2⟩,cX.keep U,l1.keep U,l2.keep U,cF.trans (U.mono (mH hB (mH V.size Y.size)))⟩
theorem Wa {γ:Nat->M4} (n wt:Nat) (D q r:Int) (w:World) (hT:Tab w) (nJ:Pl.check n ((wt:Int)+2) D=0) (hC:cntF n wt<=72) (nN:D3 n γ) (oL:-9223372036854775808<=q) (oM:q<=9223372036854775807) (iL:-9223372036854775808<=r) (mA:r<=9223372036854775807):
  Calls prog 31 #[.agg #[.int .i64 n,.int .i64 ((wt:Int)+2),.int .i64 D],.int .i64 q,.int .i64 r] w λe w'=>(∃M a1 b1 v1 s1 c1 e1 a2 b2 v2 s2 c2 e2,e=.returned (.tuple #[.pointer (some ⟨M,0,none⟩),.agg #[.int .i64 a1,.int .i64 b1,.slice v1 s1 c1],.agg #[.int .i64 a2,.int .i64 b2,.slice v2 s2 c2],.bool (decide (e1=0/\e2=0))])/\ModR w' M n wt D (frs (Cb n wt D) (cntF n wt)) (cntF n wt) (Bk (Cb n wt D) (cntF n wt) (cntF n wt))/\WAny n wt (frs (Cb n wt D) (cntF n wt)).length D q (frs (Cb n wt D) (cntF n wt)) (Bk (Cb n wt D) (cntF n wt) (cntF n wt)) γ w' a1 b1 v1 s1 c1 e1/\WAny n wt (frs (Cb n wt D) (cntF n wt)).length D r (frs (Cb n wt D) (cntF n wt)) (Bk (Cb n wt D) (cntF n wt) (cntF n wt)) γ w' a2 b2 v2 s2 c2 e2)/\Below w.heap.size w w':=by
 have mC:=Kh (λW (hb:Below w.heap.size w W)=>lL n wt D W (hT.below hb) nJ hC);have hI:∀f,f∈frs (Cb n wt D) (cntF n wt)->f<cntF n wt:=(J7 (n:=n) (wt:=wt) (D:=D) (by have:=Aj nJ;omega)).low
 obtain⟨F,hF⟩:∃F,frs (Cb n wt D) (cntF n wt)=F:=⟨_,rfl⟩
 obtain⟨X,hX⟩:∃X,Bk (Cb n wt D) (cntF n wt) (cntF n wt)=X:=⟨_,rfl⟩
 obtain⟨C,mP⟩:∃C,cntF n wt=C:=⟨_,rfl⟩
 rw[hF,hX,mP]at mC;rw[hF,mP]at hI;rw[hF,hX,mP];have nY:=Kh (λM W (hb:Below w.heap.size w W) (hm:ModR W M n wt D F C X)=>aJ q W (hT.below hb) hm hI nN oL oM);have nZ:=Kh (λM W (hb:Below w.heap.size w W) (hm:ModR W M n wt D F C X)=>aJ r W (hT.below hb) hm hI nN iL mA);clear hT nJ hC hI nN oL oM iL mA hF hX mP;obtain⟨N,hN⟩:∃N:Int,(n:Int)=N:=⟨_,rfl⟩
 obtain⟨k,hk⟩:∃k:Int,(wt:Int)+2=k:=⟨_,rfl⟩
 rw[hN,hk]at mC ⊢;clear hN hk;go_enter func31,ntmps31
 go_wp2_with fail
 obtain⟨w0,oN,XS,XU,XV,oJ⟩:=Rw w #[.int .i64 N,.int .i64 k,.int .i64 D] 23 #[.int .i64 0,.int .i64 0,.slice none 0 0] 32 #[.int .i64 0,.int .i64 0,.slice none 0 0] 32;rw[oN];obtain⟨gs,nK⟩:∃x,w.heap.size=x:=⟨_,rfl⟩
 obtain⟨tu,nM⟩:∃x,w.heap.size+1=x:=⟨_,rfl⟩
 obtain⟨zv,mU⟩:∃x,w.heap.size+2=x:=⟨_,rfl⟩
 have mB:w.heap.size+1+1=zv:=mU;have Y:=Kh (show w.heap.size<=tu/\w.heap.size<=zv/\tu≠zv by omega);rw[nK]at XS;rw[nM]at XU
 (first|rw[mU]at XV|rw[mB]at XV)
 try rw[mU]
 try rw[mB]
 try rw[nM]
 try rw[nK]
 have nA:=Kh (And.intro XU.lt XV.lt);have Z:=Kh XS;have cD:=Kh XU;have cT:=Kh XV;have dC:=Kh oJ;clear oN XS XU XV oJ nK nM mU mB;have s0:=Z.1.at_ 0 rfl;have s1:=Z.1.at_ 1 rfl;have s2:=Z.1.at_ 2 rfl;go_wp2_with fail
 refine(mC.1 w0 dC.1).mono ?_;rintro e w1 ⟨⟨M,rfl,hm,oK⟩,hZ⟩;clear mC;clear s0 s1 s2;have hB:=Kh (bk Z hZ);have cF:=Kh (bk cD hZ);have cV:=Kh (bk cT hZ);have dE:=bt dC hZ;clear Z cD cT dC hZ;have gF:=Kh hm;have oA:=Kh (show tu<w0.heap.size/\zv<w0.heap.size from⟨nA.1.1,nA.1.2⟩);obtain⟨uF,nI,_⟩:=hm.mod.c3;have dY:=Kh (show w1.cell? ⟨M,3,none⟩=some uF/\∀g,uF.ownBlock=some g->g≠tu/\g≠zv from⟨nI,λg hg=>by have h1:=oK uF g nI hg;have h2:=oA.1;omega⟩);clear hm oK nI oA nA;go_wp2_with fail
 refine(nY.1 M w1 dE.1 gF.1).mono ?_;rintro e w2 ⟨⟨a1,b1,v1,s1,c1,e1,rfl,iL⟩,gP⟩;clear nY;have hD:=Kh (bk hB gP);have bA:=Kh (bk cF gP);have bC:=Kh (bk cV gP);have eP:=Kh (show w2.cell? ⟨M,3,none⟩=some uF/\∀g,uF.ownBlock=some g->g≠tu/\g≠zv from⟨cell_next gP dY.1.1,dY.1.2⟩);have hO:=Kh (gF.1.keep gP);have hJ:=bt dE gP;clear hB cF cV dY gF dE gP;have gS:=Kh iL;clear iL;go_wp2_with fail
 obtain⟨w3,oO⟩:∃x,w2.alloc (.cells #[.int .i64 a1,.int .i64 b1,.slice v1 s1 c1] 32)=x:=⟨_,rfl⟩
 obtain⟨mN,aD⟩:=Gs w2 #[.int .i64 a1,.int .i64 b1,.slice v1 s1 c1] 32;rw[oO]at mN aD ⊢;obtain⟨gx,mX⟩:∃x,w2.heap.size=x:=⟨_,rfl⟩
 rw[mX]at mN ⊢;have mD:=Kh (show tu≠gx from λh=>by have:=bA.1.lt;omega);have mL:=Kh (show zv≠gx from λh=>by have:=bC.1.lt;omega);have mV:=Kh mN;clear oO mN mX;have hE:=Kh (bk hD aD);have cG:=Kh (bk bA aD);have cX:=Kh (bk bC aD);have eV:=Kh (show w3.cell? ⟨M,3,none⟩=some uF/\∀g,uF.ownBlock=some g->g≠tu/\g≠zv from⟨cell_next aD eP.1.1,eP.1.2⟩);have gL:=Kh (hO.1.keep aD);have gU:=Kh (gS.1.keep aD);have dX:=bt hJ aD;clear hD bA bC eP hO gS hJ aD;have cB:=mV;clear mV;go_wp2_with fail
 refine(nZ.1 M w3 dX.1 gL.1).mono ?_;rintro e w4 ⟨⟨a2,b2,v2,s2,c2,e2,rfl,mA⟩,bY⟩;clear nZ;have hG:=Kh (bk hE bY);have bB:=Kh (bk cG bY);have bE:=Kh (bk cX bY);have cC:=Kh (bk cB bY);have gA:=Kh (show w4.cell? ⟨M,3,none⟩=some uF/\∀g,uF.ownBlock=some g->g≠tu/\g≠zv from⟨cell_next bY eV.1.1,eV.1.2⟩);have hP:=Kh (gL.1.keep bY);have gX:=Kh (gU.1.keep bY);have hL:=bt dX bY;clear hE cG cX cB eV gL gU dX bY;have gY:=Kh mA;clear mA;go_upto_region 6 with(fail)
 obtain⟨w5,oP⟩:∃x,w4.alloc (.cells #[.int .i64 a2,.int .i64 b2,.slice v2 s2 c2] 32)=x:=⟨_,rfl⟩
 obtain⟨mO,V⟩:=Gs w4 #[.int .i64 a2,.int .i64 b2,.slice v2 s2 c2] 32;rw[oP]at mO V ⊢;obtain⟨gy,mY⟩:∃x,w4.heap.size=x:=⟨_,rfl⟩
 rw[mY]at mO ⊢;have mE:=Kh (show tu≠gy from λh=>by have:=bB.1.lt;omega);have mM:=Kh (show zv≠gy from λh=>by have:=bE.1.lt;omega);have mW:=Kh mO;clear oP mO mY;have oW:=Kh (bk hG V);have J:=Kh (bk bB V);have O:=Kh (bk bE V);have aN:=Kh (bk cC V);have hM:=Kh (show w5.cell? ⟨M,3,none⟩=some uF/\∀g,uF.ownBlock=some g->g≠tu/\g≠zv from⟨cell_next V gA.1.1,gA.1.2⟩);have gN:=Kh (hP.1.keep V);have bG:=Kh (gX.1.keep V);have bH:=Kh (gY.1.keep V);have aK:=bt hL V;clear hG bB bE cC gA hP gX gY hL V;have aX:=mW;clear mW;have nB:=aN.1.at_ 0 rfl;have nC:=aN.1.at_ 1 rfl;have nD:=aN.1.at_ 2 rfl;have nE:=aX.1.at_ 0 rfl;have nF:=aX.1.at_ 1 rfl;have nG:=aX.1.at_ 2 rfl;have nQ:=J.1.at_ 0 rfl;have nR:=J.1.at_ 1 rfl;have nS:=J.1.at_ 2 rfl;have nT:=O.1.at_ 0 rfl;have nU:=O.1.at_ 1 rfl;have nV:=O.1.at_ 2 rfl;have hQ:=J.1.free_ 0;have hR:=J.1.free_ 1;have hS:=J.1.free_ 2;have hU:=O.1.free_ 0;have hV:=O.1.free_ 1;have hW:=O.1.free_ 2;have oQ:tu≠zv:=Y.1.2.2;have pM:zv≠tu:=λh=>oQ h.symm
 have mQ:tu≠gx:=mD.1;have oZ:gx≠tu:=λh=>mQ h.symm
 have mR:tu≠gy:=mE.1;have pA:gy≠tu:=λh=>mR h.symm
 have mS:zv≠gx:=mL.1;have pB:gx≠zv:=λh=>mS h.symm
 have mT:zv≠gy:=mM.1;have pC:gy≠zv:=λh=>mT h.symm
 have mZ:=Kh (show ∀u g,w5.cell? ⟨M,3,none⟩=some u->u.ownBlock=some g->g≠tu/\g≠zv from λu g h1 h2=>by
  rw[hM.1.1]at h1;injection h1 with h1
  subst h1;exact hM.1.2 g h2)
 by_cases h1:e1=0
 case neg=>
  have pQ:(e1==0)=false:=by simpa using h1
  have pF:=Kh h1;clear h1;go_region
  have I:=Ru rfl J.1 O.1 Y.1.2.2 Y.1.1 Y.1.2.1 aK.1.size aK.1 gN.1 mZ.1 bG.1 bH.1;have q0:=I.1.1;have q1:=I.1.2.1;have q2:=I.1.2.2.1;have q3:=I.1.2.2.2.1;have q4:=I.1.2.2.2.2.1;have q5:=I.1.2.2.2.2.2;have U:=Kh I.2;clear I nB nC nD nE nF nG nQ nR nS nT nU nV hQ hR hS hU hV hW;go_wp2;try simp only[Exit.inBlock,Exit.then]
  refine bodyPost_ret (by simp[results,results31,go_sem,q0,q1,q2,q3,q4,q5];try rfl) rfl ?_;exact⟨⟨M,_,_,_,_,_,_,_,_,_,_,_,_,by simp[pF.1],U.1.1,U.1.2.1,U.1.2.2.1⟩,U.1.2.2.2⟩
 by_cases h2:e2=0
 case neg=>
  have pR:(e2==0)=false:=by simpa using h2
  have pG:=Kh h2;subst h1;clear h2;go_region
  have I:=Ru rfl J.1 O.1 Y.1.2.2 Y.1.1 Y.1.2.1 aK.1.size aK.1 gN.1 mZ.1 bG.1 bH.1;have q0:=I.1.1;have q1:=I.1.2.1;have q2:=I.1.2.2.1;have q3:=I.1.2.2.2.1;have q4:=I.1.2.2.2.2.1;have q5:=I.1.2.2.2.2.2;have U:=Kh I.2;clear I nB nC nD nE nF nG nQ nR nS nT nU nV hQ hR hS hU hV hW;go_wp2;try simp only[Exit.inBlock,Exit.then]
  refine bodyPost_ret (by simp[results,results31,go_sem,q0,q1,q2,q3,q4,q5];try rfl) rfl ?_;exact⟨⟨M,_,_,_,_,_,_,_,_,_,_,_,_,by simp[pG.1],U.1.1,U.1.2.1,U.1.2.2.1⟩,U.1.2.2.2⟩
 subst h1 h2;go_region
 have I:=Ru rfl J.1 O.1 Y.1.2.2 Y.1.1 Y.1.2.1 aK.1.size aK.1 gN.1 mZ.1 bG.1 bH.1;have q0:=I.1.1;have q1:=I.1.2.1;have q2:=I.1.2.2.1;have q3:=I.1.2.2.2.1;have q4:=I.1.2.2.2.2.1;have q5:=I.1.2.2.2.2.2;have U:=Kh I.2;clear I nB nC nD nE nF nG nQ nR nS nT nU nV hQ hR hS hU hV hW;go_wp2;try simp only[Exit.inBlock,Exit.then]
 refine bodyPost_ret (by simp[results,results31,go_sem,q0,q1,q2,q3,q4,q5];try rfl) rfl ?_;exact⟨⟨M,_,_,_,_,_,_,_,_,_,_,_,_,by simp,U.1.1,U.1.2.1,U.1.2.2.1⟩,U.1.2.2.2⟩
end
section
open Go.RowKit
theorem OwnQ.fromO {F:Nat->FP} {w:World} {B n:Nat} {p:Option Addr} {c:Nat} (h:OwnQ F w B (.slice p n c) n):∀a,p=some a->B<=a.block:=by
 intro a J;rcases h.row with⟨_,I⟩ |⟨g,cap,I,hB,_⟩
 ·injection I with h2
  rw[J]at h2;cases h2
 ·injection I with h2
  rw[J]at h2;injection h2 with h2
  rw[h2];exact hB
end
section
open Go.RowKit Eli Tryz
def CoGood (w':World) (v:Option Addr) (m c:Nat) (p q p' q':Int) (n wt:Nat) (D:Int) (F:List Nat) (X:Nat->Nat->Rat) (Q:Nat->Rat):Prop:=
 (Av p q=0/\Av p' q'=0)/\∃g,v=some ⟨g,0,none⟩/\m=F.length/\c=F.length/\QRow (λj=>IsQ (Pot (Ag n wt D (λi=>X i (F.getD j 0)) Q) (p',q') - Pot (Ag n wt D (λi=>X i (F.getD j 0)) Q) (p,q))) w' g F.length F.length/\∀j,j<F.length->hq (Pot (Ag n wt D (λi=>X i (F.getD j 0)) Q) (p',q') - Pot (Ag n wt D (λi=>X i (F.getD j 0)) Q) (p,q))<=430000000
theorem CoGood.keep {w w':World} {v:Option Addr} {m c:Nat} {p q p' I:Int} {n wt:Nat} {D:Int} {F:List Nat} {X:Nat->Nat->Rat} {Q:Nat->Rat} (h:CoGood w v m c p q p' I n wt D F X Q) (Z:Below w.heap.size w w'):CoGood w' v m c p q p' I n wt D F X Q:=by
 obtain⟨J,g,M,O,U,V,Y⟩:=h;exact⟨J,g,M,O,U,V.keep (λ_=>IsQ.solid _) Z,Y⟩
theorem CoRet.val {w w':World} {e:Ending} {p q p' U:Int} {n wt:Nat} {D:Int} {F:List Nat} {X:Nat->Nat->Rat} {Q:Nat->Rat} (h:CoRet w w' e p q p' U n wt D F X Q):
  ∃v m c J,e=.returned (.tuple #[.slice v m c,.int .i64 J])/\(J≠0->m=0)/\(J=0->CoGood w' v m c p q p' U n wt D F X Q)/\(Av p q=0->Av p' U=0->J=0):=by
 rcases h with⟨I,J,Y,O⟩ |⟨I,g,O,V,M,Z⟩
 ·exact⟨none,0,0,J,O,λ_=>rfl,λh=>absurd h Y,λV M=>by rcases I with I|I;exact absurd V I;exact absurd M I⟩
 ·exact⟨some ⟨g,0,none⟩,F.length,F.length,0,O,λh=>absurd rfl h,λ_=>⟨I,g,rfl,rfl,rfl,M,Z⟩,λ_ _=>rfl⟩
theorem J0 {w W:World} {g L c:Nat} {p:Option Addr} {i j k l:Int} {f:Nat->Rat} (V:(((((w.setCell ⟨g,0,none⟩ (.slice p L c)).setCell ⟨g,1,none⟩ (.int .i64 i)).setCell ⟨g,2,none⟩ (.int .i64 j)).setCell ⟨g,3,none⟩ (.int .i64 k)).setCell ⟨g,4,none⟩ (.int .i64 l))=W) (M:Blk w g 57 #[.slice none 0 0,.int .i64 0,.int .i64 0,.int .i64 0,.int .i64 0]) (hq:QL (λj=>IsQ (f j)) w (.slice p L c) L) (I:∀a,p=some a->a.block=g->False) {B:Nat} {w0:World} (hB:B<=g) (U:Below B w0 w):
  Blk W g 57 #[.slice p L c,.int .i64 i,.int .i64 j,.int .i64 k,.int .i64 l]/\QL (λj=>IsQ (f j)) W (.slice p L c) L/\Below B w0 W:=by
 subst V;have J:Stk NotU32 w g:=Stk.of M (by intro v O;simp at O;rcases O with rfl|rfl|rfl|rfl|rfl <;> exact λ_ h=>by cases h);exact⟨((((M.set_ 0 (.slice p L c)).set_ 1 (.int .i64 i)).set_ 2 (.int .i64 j)).set_ 3 (.int .i64 k)).set_ 4 (.int .i64 l),hq.boxed (λ_=>IsQ.solid _) (I32.path J p L c i j k l) (Jr w g _ _ _ _ _) I,((((U.setCell (p:=⟨g,0,none⟩) hB _).setCell (p:=⟨g,1,none⟩) hB _).setCell (p:=⟨g,2,none⟩) hB _).setCell (p:=⟨g,3,none⟩) hB _).setCell (p:=⟨g,4,none⟩) hB _⟩
theorem lQ (a:Int):-7<=a.tmod 8/\a.tmod 8<=7:=by
 have I:=Int.lt_tmod_of_pos a (show(0:Int)<8 by decide);have J:=Int.tmod_lt_of_pos a (show(0:Int)<8 by decide);omega
theorem mF (a:Int):-3<=a.tmod 4/\a.tmod 4<=3:=by
 have I:=Int.lt_tmod_of_pos a (show(0:Int)<4 by decide);have J:=Int.tmod_lt_of_pos a (show(0:Int)<4 by decide);omega
theorem ALm.ok {n q:Nat} {A B C E:Int} (h:ALm n q A B C E):dL n q:=by
 refine⟨q,rfl,h.hq,⟨n / q,h.dv⟩,?_⟩;obtain⟨x,_,I⟩:=h.one
 have J:((Nat.gcd q (n / q):Nat):Int)∣1:=by
  rw[<-I];exact Int.dvd_sub (Int.dvd_trans (Int.natCast_dvd_natCast.2 (Nat.gcd_dvd_left ..)) (Int.dvd_mul_right _ _)) (Int.dvd_trans (Int.natCast_dvd_natCast.2 (Nat.gcd_dvd_right ..)) (Int.dvd_mul_left _ _))
 have M:Nat.gcd q (n / q)∣1:=by exact_mod_cast J
 exact Nat.dvd_one.1 M
theorem Wh {xa:Nat->Int} {la wt:Nat} {a b c d:Int} (h:∀j,hq (F8 xa la j)<=4) (U:wt<=22) (I:a.natAbs<=100000000) (J:b.natAbs<=100000000) (M:c.natAbs<=100000000) (O:d.natAbs<=100000000) (j:Nat):hq (subst (F8 xa la) wt d (-b) (-c) a (wt+1) j)<=4000:=
 Cs (K:=4) (λi _=>h i) (C8 (by omega) (by omega)) (C8 (by omega) (by omega)) (C8 (by omega) (by omega)) (C8 (by omega) (by omega)) (by omega) (by omega)
theorem kV {A B C E:Int} {K:Nat} {p r:Int} (I:A*E - B*C≠0) (O:A.natAbs<=K) (U:B.natAbs<=K) (V:C.natAbs<=K) (Y:E.natAbs<=K) (Z:Av p r=0) (J:p.natAbs<=400) (M:r.natAbs<=400) (hK:K<=1300000):
  Dy A B C E p r=(img A B C E (p,r),0)/\Av (img A B C E (p,r)).1 (img A B C E (p,r)).2=0/\(img A B C E (p,r)).1.natAbs<=1073741824/\(img A B C E (p,r)).2.natAbs<=1073741824:=by
 have g1:=Js O J U M;have g2:=Js V J Y M;have h:=Mo (a:=A) (b:=B) (c:=C) (d:=E) (p:=p) (q:=r) I Z (by omega) (by omega);exact⟨h.1,h.2.1,by have:=h.2.2.1;omega,by have:=h.2.2.2;omega⟩
theorem dK {xa:Nat->Int} {la wt:Nat} {a b c d J M O U:Int} (h:∀j,hq (F8 xa la j)<=4) (hw:wt<=22) (ha:a.natAbs<=1300000) (hb:b.natAbs<=1300000) (hc:c.natAbs<=1300000) (hd:d.natAbs<=1300000) (I:a*d - b*c≠0) (aK:Av J M=0) (aN:Av O U=0) (h1:J.natAbs<=400) (h2:M.natAbs<=400) (h3:O.natAbs<=400) (h4:U.natAbs<=400):
  ∃u0 u1 v0 v1:Int,img a b c d (J,M)=(u0,u1)/\img a b c d (O,U)=(v0,v1)/\(Av u0 u1=0/\Av v0 v1=0)/\(u0.natAbs<=1073741824/\u1.natAbs<=1073741824/\v0.natAbs<=1073741824/\v1.natAbs<=1073741824)/\∀(W:World) (v:Value),QL (λj=>IsQ (F8 xa la j)) W v (wt+1)->Calls prog 25 #[.agg #[v,.int .i64 J,.int .i64 M,.int .i64 O,.int .i64 U],.agg #[.int .i64 a,.int .i64 b,.int .i64 c,.int .i64 d]] W λe w'=>(∃g cap,e=.returned (.tuple #[.agg #[.slice (some ⟨g,0,none⟩) (wt+1) cap,.int .i64 u0,.int .i64 u1,.int .i64 v0,.int .i64 v1],.int .i64 0])/\W.heap.size<=g/\QL (λj=>IsQ (subst (F8 xa la) wt d (-b) (-c) a (wt+1) j)) w' (.slice (some ⟨g,0,none⟩) (wt+1) cap) (wt+1))/\Below W.heap.size W w':=by
 obtain⟨ex,cx,bx1,bx2⟩:=kV I ha hb hc hd aK h1 h2 (mG _);obtain⟨ey,cy,Y,Z⟩:=kV I ha hb hc hd aN h3 h4 (mG _);refine⟨(img a b c d (J,M)).1,(img a b c d (J,M)).2,(img a b c d (O,U)).1,(img a b c d (O,U)).2,rfl,rfl,⟨cx,cy⟩,⟨bx1,bx2,Y,Z⟩,λW v hv=>?_⟩;have he:cZ a b c d J M O U=0:=by unfold cZ;rw[ex,ey];rfl
 have ht:=El 4 (by decide) (by decide) v (wt+1) (λi=>(F8 xa la i).num) (λi=>((F8 xa la i).den:Int)) J M O U a b c d W (hv.isB (λi _=>h i)) (by omega) (by omega) (by omega) (by omega) (by omega) (by omega) (by omega) (by omega) (by omega) (by omega) I (by omega) (by omega) (by omega) (by omega) (by omega) (by omega) (by omega) (by omega);rw[ex,ey,he,show(λi=>Rat.divInt (F8 xa la i).num ((F8 xa la i).den:Int))=F8 xa la from funext λi=>Rat.num_divInt_den _,Nat.add_sub_cancel]at ht;refine Calls.mono ht ?_;rintro e w' ⟨aX,aD⟩;obtain⟨_,g,cap,rfl,hg,V⟩:=aX.resolve_left (λh=>h.1 rfl);exact⟨⟨g,cap,rfl,hg,V.ql cap⟩,aD⟩
theorem L3 (N k D q r:Int) (w:World) (Z:Pl.check N k D≠0):
  Calls prog 31 #[.agg #[.int .i64 N,.int .i64 k,.int .i64 D],.int .i64 q,.int .i64 r] w λe w'=>e=.returned (.tuple #[.pointer none,.agg #[.int .i64 0,.int .i64 0,.slice none 0 0],.agg #[.int .i64 0,.int .i64 0,.slice none 0 0],.bool false])/\Below w.heap.size w w':=by
 have bB:=Kh (λW=>Uz N k D W Z);obtain⟨er,cT⟩:∃er,Pl.check N k D=er:=⟨_,rfl⟩
 rw[cT]at bB Z;have hJ:(er != 0)=true:=by rw[bne_iff_ne];exact Z
 clear cT Z;go_enter func31,ntmps31
 go_wp2_with fail
 obtain⟨w0,cV,XS,XU,XV,cG⟩:=Rw w #[.int .i64 N,.int .i64 k,.int .i64 D] 23 #[.int .i64 0,.int .i64 0,.slice none 0 0] 32 #[.int .i64 0,.int .i64 0,.slice none 0 0] 32;rw[cV];obtain⟨gs,bC⟩:∃x,w.heap.size=x:=⟨_,rfl⟩
 obtain⟨M,bE⟩:∃x,w.heap.size+1=x:=⟨_,rfl⟩
 obtain⟨O,aD⟩:∃x,w.heap.size+2=x:=⟨_,rfl⟩
 have V:w.heap.size+1+1=O:=aD;have U:=Kh (show w.heap.size<=M/\w.heap.size<=O/\M≠O by omega);rw[bC]at XS;rw[bE]at XU
 (first|rw[aD]at XV|rw[V]at XV)
 try rw[aD]
 try rw[V]
 try rw[bE]
 try rw[bC]
 have s0:=XS.at_ 0 rfl;have s1:=XS.at_ 1 rfl;have s2:=XS.at_ 2 rfl;have cA:=Kh XU;have cB:=Kh XV;have bH:=Kh cG;clear cV XS XU XV cG bC bE aD V;go_wp2_with fail
 refine(bB.1 w0).mono ?_;rintro e w1 ⟨rfl,Y⟩;have I:=bk cA Y;have J:=bk cB Y;have bA:=bt bH Y;clear Y cA cB bH bB s0 s1 s2;have t0:=I.at_ 0 rfl;have t1:=I.at_ 1 rfl;have t2:=I.at_ 2 rfl;have z0:=J.at_ 0 rfl;have z1:=J.at_ 1 rfl;have z2:=J.at_ 2 rfl;have eV:=I.free_ 0;have gA:=I.free_ 1;have gF:=I.free_ 2;have gL:=J.free_ 0;have gN:=J.free_ 1;have gP:=J.free_ 2;have aX:M≠O:=U.1.2.2;have cX:O≠M:=λh=>aX h.symm
 have gU:=Kh I;have aN:=Kh J;clear I J;go_wp2;have g3:=((Ai w1 M 0 (.int .i64 0)).trans (Ai _ M 1 (.int .i64 0))).trans (Ai _ M 2 (.slice none 0 0));have e3:=Hy (w:=w1) (R:=M) (v0:=.int .i64 0) (v1:=.int .i64 0) (v2:=.slice none 0 0) (by rw[t0];rfl) (by rw[t1];rfl) (by rw[t2];rfl);obtain⟨p,hp⟩:∃p,((w1.setCell ⟨M,0,none⟩ (.int .i64 0)).setCell ⟨M,1,none⟩ (.int .i64 0)).setCell ⟨M,2,none⟩ (.slice none 0 0)=p:=⟨_,rfl⟩
 rw[hp]at g3 e3;try rw[hp]
 have aK:Blk p O 32 #[.int .i64 0,.int .i64 0,.slice none 0 0]:=(g3.block O aN.1.lt (λe=>by injection e with e;exact cX e)).trans aN.1;have y0:=aK.at_ 0 rfl;have y1:=aK.at_ 1 rfl;have y2:=aK.at_ 2 rfl;have e6:=Hy (w:=p) (R:=O) (v0:=.int .i64 0) (v1:=.int .i64 0) (v2:=.slice none 0 0) (by rw[y0];rfl) (by rw[y1];rfl) (by rw[y2];rfl);have g6:=((Ai p O 0 (.int .i64 0)).trans (Ai _ O 1 (.int .i64 0))).trans (Ai _ O 2 (.slice none 0 0));have bG:(some M:Option Nat)≠some O:=λe=>by injection e with e;exact aX e
 have q0:=g6.cell e3.1 bG;have q1:=g6.cell e3.2.1 bG;have q2:=g6.cell e3.2.2 bG;have q3:=e6.1;have q4:=e6.2.1;have q5:=e6.2.2;have dX:=Kh g6;have bY:=Kh g3;clear g3 g6 e3 e6 aK y0 y1 y2 t0 t1 t2 z0 z1 z2 eV gA gF gL gN gP;try simp only[Exit.inBlock,Exit.then]
 refine bodyPost_ret (by simp[results,results31,go_sem,q0,q1,q2,q3,q4,q5];try rfl) rfl ?_;exact⟨rfl,An (An bA.1 bY.1 bA.1.size U.1.1) dX.1 (mH bA.1.size bY.1.size) U.1.2.1⟩
theorem aT (z:Int) (W:World) (V:-2147483648<=z/\z<=2147483648):
  Calls prog 45 #[.slice (some ⟨W.heap.size+1,0,none⟩) 1 1] ((W.alloc (.cells #[.int .i64 z] 3)).alloc (.cells #[.slice (some ⟨W.heap.size,0,none⟩) 1 1] 93)) λe w'=>(∃p c,e=.returned (.agg #[.int .i64 1,.int .i64 1,.slice p 1 c])/\QL (λ_=>IsQ (z:Rat)) w' (.slice p 1 c) 1)/\Below W.heap.size W w':=by
 obtain⟨I,J,M⟩:=Oc W #[.int .i64 z] 3 #[.slice (some ⟨W.heap.size,0,none⟩) 1 1] 93;refine(lC z (W.heap.size+1) W.heap.size _ J.lt I.lt (J.at_ 0 rfl) (I.at_ 0 rfl) V).mono ?_;rintro e w' ⟨O,U⟩;exact⟨O,M.trans (U.mono M.size)⟩
theorem eK (w:World) (hT:Tab w):
  Calls prog 30 #[] w λe w'=>e=.returned (.bool true)/\Below w.heap.size w w':=by
 have aX:=Kh (show ∀W,Below w.heap.size w W->Calls prog 11 #[.agg #[.int .i64 2,.int .i64 2,.int .i64 1]] W λe w'=>(∃M,e=.returned (.tuple #[.pointer (some ⟨M,0,none⟩),.int .i64 0])/\ModR w' M 2 0 1 (frs (Cb 2 0 1) (cntF 2 0)) (cntF 2 0) (Bk (Cb 2 0 1) (cntF 2 0) (cntF 2 0)))/\Below W.heap.size W w' from λW V=>Mu 2 0 1 W (hT.below V) R5 (by rw[lJ];omega));obtain⟨γ,Z⟩:=G6 (n:=2) (by omega)
 have bA:=Kh (λM W (V:Below w.heap.size w W) (hm:ModR W M 2 0 1 (frs (Cb 2 0 1) (cntF 2 0)) (cntF 2 0) (Bk (Cb 2 0 1) (cntF 2 0) (cntF 2 0)))=>show Calls prog 41 #[.pointer (some ⟨M,0,none⟩),.int .i64 2] W λe w'=>(∃p c,e=.returned (.tuple #[.agg #[.int .i64 1,.int .i64 1,.slice p 1 c],.int .i64 0])/\QL (λ_=>IsQ (((-1:Int)):Rat)) w' (.slice p 1 c) 1)/\Below W.heap.size W w' from by
  have cA:∀f,f∈frs (Cb 2 0 1) (cntF 2 0)->f<cntF 2 0:=(J7 (n:=2) (wt:=0) (D:=1) (by omega)).low
  refine(aJ 2 W (hT.below V) hm cA Z (by omega) (by omega)).mono ?_;rintro e w' ⟨⟨a,b,v,s,c,er,rfl,hw⟩,I⟩;obtain rfl:=hw.1 rfl ⟨2,rfl,by omega,⟨1,rfl⟩,by decide⟩;obtain⟨m,A,B,C,E,_,gF,dC,rfl,rfl,rfl,hq,_⟩:=hw.2 rfl;obtain rfl:m=2:=by omega
  obtain⟨rfl,rfl,rfl,rfl⟩:=dC.uniq lW;have hl:(frs (Cb 2 0 1) (cntF 2 0)).length=1:=by rw[Qc];rfl
  rw[hl]at hq ⊢;refine⟨⟨v,c,rfl,QL.eqv hq (λj hj=>?_)⟩,I⟩;obtain rfl:j=0:=by have h1:j<1:=hj;omega
  exact lK Z)
 clear hT Z;go_enter func30,ntmps30
 go_wp2_with fail
 refine(aX.1 w (Below.refl _ w)).mono ?_;rintro e w1 ⟨⟨M,rfl,hm⟩,bE⟩;have aN:=Kh hm;have J:=Kh bE;clear hm bE aX;go_wp2_with fail
 refine(bA.1 M w1 J.1 aN.1).mono ?_;rintro e w2 ⟨⟨p2,c2,rfl,cB⟩,I⟩;have bB:=Kh cB;have aD:=bt J I;clear cB I aN J bA;go_upto_region 5 with(fail)
 obtain⟨h,cD,X3,Y⟩:=bx1 w2 #[.int .i64 1,.int .i64 1,.slice p2 1 c2] 32;rw[cD];obtain⟨g3,bY⟩:∃x,w2.heap.size=x:=⟨_,rfl⟩
 rw[bY]at X3 ⊢;have x0:=X3.at_ 0 rfl;have x1:=X3.at_ 1 rfl;have x2:=X3.at_ 2 rfl;have cT:=Kh (bB.1.keep (λ_=>IsQ.solid _) Y);have aK:=bt aD Y;clear cD X3 Y bY bB aD;refine iW [8,9] (λW=>W.cell? ⟨g3,0,none⟩=some (.int .i64 1)/\W.cell? ⟨g3,1,none⟩=some (.int .i64 1)/\W.cell? ⟨g3,2,none⟩=some (.slice p2 1 c2)) (λW V=>⟨Au V x0,Au V x1,Au V x2⟩) (λU hHeld0=>?_);refine De 0 ?_;refine De 1 ?_;refine De 2 ?_;refine De 3 ?_;refine iY 4 rfl (λK hK=>?_);focus(go_simp;refine hK.out _ _ ?_ (λhHeld1=>?_))
 focus((try dsimp only);exact U.1 _ ((Below.refl _ h).drew.alloc (mG _) _))
 focus(clear hK K;(try simp only[Act.put,Br,Bt,Bs]))
 refine iY 5 rfl (λK hK=>?_);focus(go_simp;refine hK.out _ _ ?_ (λhHeld2=>?_))
 focus((try dsimp only);exact U.1 _ (((Below.refl _ h).drew.alloc (mG _) _).alloc (by simp) _))
 focus(clear hK K;(try simp only[Act.put,Br,Bt,Bs]))
 refine iY 6 rfl (λK hK=>?_);focus(go_simp;refine(aT (-1) h.drew (by decide)).mono ?_;rintro e w4 ⟨⟨p4,c4,rfl,cC⟩,bG⟩;have O:=Kh ((Below.refl _ h).drew.trans bG:Below h.heap.size h w4);have cV:=Kh cC;clear cC bG;(first|with_reducible refine hK.out _ _ ?_ (λhHeld3=>?_) |(go_wp2_with fail;with_reducible refine hK.out _ _ ?_ (λhHeld3=>?_))))
 focus((try dsimp only);exact U.1 _ O.1)
 focus(clear hK K;(try simp only[Act.put,Br,Bt,Bs]))
 refine iX 7 rfl (λK hK=>?_);focus(go_simp;refine(Oj 1 1 (.slice p2 1 c2) (.slice p4 1 c4) 1 (λ_=>(((-1:Int)):Rat)) w4 (cT.1.keep (λ_=>IsQ.solid _) O.1) cV.1 (by decide) (λ_ _=>by decide +kernel)).mono ?_;rintro e w5 ⟨rfl,bH⟩;have cG:=bt O bH;clear bH;(first|with_reducible refine hK.out _ _ ?_ |(go_wp2_with fail;with_reducible refine hK.out _ _ ?_)))
 clear hK K
 (try simp only[Act.put,Br,Bt,Bs])
 refine jA 8 ?_;refine jA 9 ?_;refine iT ?_;go_wp2;go_ret;exact⟨rfl,aK.1.trans (cG.1.mono aK.1.size)⟩
def lI (n:Nat) (e:Ending):Prop:=e=.returned (.tuple #[.agg #[.int .i64 0,.int .i64 0,.int .i64 0,.int .i64 0],.bool false])∨∃A B C E:Int,e=.returned (.tuple #[.agg #[.int .i64 A,.int .i64 B,.int .i64 C,.int .i64 E],.bool true])/\G0 n A B C E/\(-1728<=A/\A<=1728)/\(-13121<=B/\B<=13121)/\(-216<=C/\C<=216)/\(-1640<=E/\E<=1640)
theorem Jw {x y:Int} {A B:Nat} (h:x.natAbs<=A) (I:y.natAbs<=B):-((A*B:Nat):Int)<=x*y/\x*y<=((A*B:Nat):Int):=by
 have J:=Nat.mul_le_mul h I;rw[<-Int.natAbs_mul]at J;omega
theorem aL (n:Nat) (a b c d:Int) (w:World) (nB:0<n) (hn:n<=72) (ha:-7<=a) (mV:a<=7) (hb:-7<=b) (mW:b<=7) (hc:-3<=c) (mX:c<=3) (hd:-128<=d) (mY:d<=127):
  Calls prog 33 #[.int .i64 n,.int .i64 a,.int .i64 b,.int .i64 c,.int .i64 d] w λe w'=>lI n e/\Below w.heap.size w w':=by
 obtain⟨k,hk⟩:∃k,(n:Int)*c=k:=⟨_,rfl⟩
 have aX:=Jw (x:=(n:Int)) (y:=c) (A:=72) (B:=3) (by omega) (by omega);rw[hk]at aX;have mD:-216<=k:=by omega
 have mE:k<=216:=by omega
 have wk:IntKind.i64.wrap ((n:Int)*c)=k:=by rw[hk];exact IntWalk.i64_in _ (by omega)
 have U:(n:Int)∣k:=hk▸Int.dvd_mul_right _ _;obtain⟨gd,bY⟩:∃gd,Int.gcd k d=gd:=⟨_,rfl⟩
 have bC:=Kh bY;have mP:=Kh U;have O:=Kh (λW=>E7 k d W (by omega) (by omega) (by omega) (by omega));rw[bY]at O
 have M:=Kh (show ∀x y:Int,(-216<=x/\x<=216)->(-129<=y/\y<=129)->x*d - y*k=1->∃ak A V s Z B kb E:Int,a*k=ak/\x+ak=A/\A*b=V/\V+y=s/\a*d=Z/\s+Z=B/\k*b=kb/\kb+d=E/\G0 n A B k E/\(-1728<=A/\A<=1728)/\(-13121<=B/\B<=13121)/\(-216<=k/\k<=216)/\(-1640<=E/\E<=1640)/\(-1000000<=ak/\ak<=1000000)/\(-1000000<=V/\V<=1000000)/\(-1000000<=s/\s<=1000000)/\(-1000000<=Z/\Z<=1000000)/\(-1000000<=kb/\kb<=1000000)from λx y hx hy hQ=>by
  have b1:=Jw (x:=a) (y:=k) (A:=7) (B:=216) (by omega) (by omega);have b2:=Jw (x:=x+a*k) (y:=b) (A:=1728) (B:=7) (by omega) (by omega);have b3:=Jw (x:=a) (y:=d) (A:=7) (B:=128) (by omega) (by omega);have b4:=Jw (x:=k) (y:=b) (A:=216) (B:=7) (by omega) (by omega);refine⟨_,_,_,_,_,_,_,_,rfl,rfl,rfl,rfl,rfl,rfl,rfl,rfl,⟨?_,U⟩,?_⟩
  ·rw[<-hQ];grind
  ·omega)
 clear hk aX U bY;go_enter func33,ntmps33
 go_wp2_with fail
 obtain⟨w0,gP,X0,dE⟩:=bx1 w #[.int .i64 0,.int .i64 0,.int .i64 0,.int .i64 0] 63;rw[gP];refine(O.1 w0).mono ?_;rintro e w1 ⟨rfl,nd,eP⟩;obtain⟨gp,aN⟩:∃x,w.heap.size=x:=⟨_,rfl⟩
 have mQ:=Kh aN;have J:=Kh (show w.heap.size<=gp from Nat.le_of_eq aN);have X1:=X0.below_ (Aa (Below.refl w0.heap.size w0) nd) X0.lt;have W1:=Aa dE nd;rw[<-eP]at X1 W1;rw[aN]at X1 ⊢;have bB:=Kh W1;have I:=Kh X1;clear gP X0 dE eP X1 W1 aN wk;by_cases hg1:gd=1
 ·have hJ:((gd:Int) != 1)=false:=by rw[bne_eq_false_iff_eq];omega
  by_cases hk0:k=0
  ·have aX:(k==0)=true:=by rw[hk0];rfl
   have dX:d=1∨d=-1:=by
    have h:=bC.1;rw[hk0,Int.gcd_zero_left]at h;omega
   obtain⟨ak,A,V,s,Z,B,kb,E,e1,e2,e3,e4,e5,e6,e7,e8,hG,r1,r2,r3,r4,r5,r6,r7,r8,r9⟩:=M.1 d 0 (by omega) (by omega) (by rw[Int.zero_mul];rcases dX with h|h <;> rw[h] <;> decide);have bE:=Kh hG;have v1:IntKind.i64.wrap (a*k)=ak:=by rw[e1];exact IntWalk.i64_in _ (by omega)
   have v2:IntKind.i64.wrap (d+ak)=A:=by rw[e2];exact IntWalk.i64_in _ (by omega)
   have v3:IntKind.i64.wrap (A*b)=V:=by rw[e3];exact IntWalk.i64_in _ (by omega)
   have v4:IntKind.i64.wrap V=s:=by rw[<-e4,Int.add_zero];exact IntWalk.i64_in _ (by omega)
   have v5:IntKind.i64.wrap (a*d)=Z:=by rw[e5];exact IntWalk.i64_in _ (by omega)
   have v6:IntKind.i64.wrap (s+Z)=B:=by rw[e6];exact IntWalk.i64_in _ (by omega)
   have v7:IntKind.i64.wrap (k*b)=kb:=by rw[e7];exact IntWalk.i64_in _ (by omega)
   have v8:IntKind.i64.wrap (kb+d)=E:=by rw[e8];exact IntWalk.i64_in _ (by omega)
   clear e1 e2 e3 e4 e5 e6 e7 e8 hG M O dX hk0;have x0:=I.1.at_ 0 rfl;have x1:=I.1.at_ 1 rfl;have x2:=I.1.at_ 2 rfl;have x3:=I.1.at_ 3 rfl;have f0:=I.1.free_ 0;have f1:=I.1.free_ 1;have f2:=I.1.free_ 2;have f3:=I.1.free_ 3;go_wp2
   (try simp only[Exit.inBlock,Exit.then])
   exact bodyPost_ret (v:=.tuple #[.agg #[.int .i64 A,.int .i64 B,.int .i64 k,.int .i64 E],.bool true]) (by rw[results_cell_tmp rfl];go_simp) rfl ⟨.inr ⟨A,B,k,E,rfl,bE.1,r1,r2,r3,r4⟩,((((bB.1.setCell J.1 _).setCell J.1 _).setCell J.1 _).setCell J.1 _)⟩
  ·have aX:(k==0)=false:=by rw[beq_eq_false_iff_ne];exact hk0
   obtain⟨m,hm⟩:∃m,k.natAbs=m:=⟨_,rfl⟩
   have hN:0<m:=by omega
   have mZ:m<=216:=by omega
   have hM:∀w,(Builtin.max_ #[3,3] 3 #[.int .i64 k,.int .i64 (-k)]).run prog w=.ok (.int .i64 m) w:=λw=>by
    have e:(if k < -k then -k else k)=(m:Int):=by split <;> omega
    simp[Builtin.max_,Builtin.max2,e]
   have wn:IntKind.i64.wrap (-k)=-k:=IntWalk.i64_in _ (by omega);obtain⟨r,hr,gL⟩:=Wy hN hm (by rw[bC.1];exact hg1);have HR:=Kh hr;have hD:=Kh gL;have HM:=Kh hm;clear hr gL hm O bC;go_upto_region 8 with(fail)
   clear hM wn;go_loopw [13] (λvx wr=>∃x:Nat,x<=m/\vx=.int .i64 x/\wr=w1/\∀y:Nat,y<x->¬(m:Int)∣y*d - 1) (λvx _=>m - (intOf vx).toNat)
   case atStart=>exact⟨0,Nat.zero_le _,rfl,rfl,λy hy=>absurd hy (Nat.not_lt_zero _)⟩
   case round=>
    obtain⟨x,hx,rfl,rfl,eV⟩:=hrel;have bG:=Kh eV;clear eV;obtain⟨P,hP⟩:∃P,(x:Int)*d=P:=⟨_,rfl⟩
    have bH:=Jw (x:=(x:Int)) (y:=d) (A:=m) (B:=128) (by omega) (by omega);rw[hP]at bH;obtain⟨z,hz⟩:∃z,P - 1=z:=⟨_,rfl⟩
    have nF:-27649<=z/\z<=27649:=by omega
    have wp:IntKind.i64.wrap ((x:Int)*d)=P:=by rw[hP];exact IntWalk.i64_in _ (by omega)
    have wz:IntKind.i64.wrap (P - 1)=z:=by rw[hz];exact IntWalk.i64_in _ (by omega)
    have bA:(x:Int)*d - 1=z:=by rw[hP];exact hz
    have nA:((m:Int)==0)=false:=by rw[beq_eq_false_iff_ne];omega
    by_cases hdv:(m:Int)∣z
    ·obtain⟨q,hq⟩:∃q,z.tdiv m=q:=⟨_,rfl⟩
     have gF:q*m=z:=by rw[<-hq];exact Int.tdiv_mul_cancel hdv
     have gA:q.natAbs<=27649:=by rw[<-hq,Int.natAbs_tdiv];exact mH (Nat.div_le_self _ _) (by omega)
     have wq:IntKind.i64.wrap q=q:=IntWalk.i64_in _ (by omega);have wm:IntKind.i64.wrap (q*m)=z:=by rw[gF];exact IntWalk.i64_in _ (by omega)
     obtain⟨Y,hY⟩:∃Y,z.tdiv k=Y:=⟨_,rfl⟩
     have dY:k∣z:=by rw[<-HM.1]at hdv;exact Int.natAbs_dvd.1 hdv
     have dC:Y*k=z:=by rw[<-hY];exact Int.tdiv_mul_cancel dY
     have mU:Y.natAbs<=129:=by rw[<-hY,Int.natAbs_tdiv,HM.1];exact Nat.div_le_of_le_mul (by omega)
     have wY:IntKind.i64.wrap Y=Y:=IntWalk.i64_in _ (by omega);have hO:(z != z)=false:=by simp
     obtain⟨ak,A,V,s,Z,B,kb,E,e1,e2,e3,e4,e5,e6,e7,e8,hG,r1,r2,r3,r4,r5,r6,r7,r8,r9⟩:=M.1 x Y (by omega) (by omega) (by rw[dC,<-bA];omega);clear hP hz bA gF dC dY hdv bH;have bE:=Kh hG;have v1:IntKind.i64.wrap (a*k)=ak:=by rw[e1];exact IntWalk.i64_in _ (by omega)
     have v2:IntKind.i64.wrap ((x:Int)+ak)=A:=by rw[e2];exact IntWalk.i64_in _ (by omega)
     have v3:IntKind.i64.wrap (A*b)=V:=by rw[e3];exact IntWalk.i64_in _ (by omega)
     have v4:IntKind.i64.wrap (V+Y)=s:=by rw[e4];exact IntWalk.i64_in _ (by omega)
     have v5:IntKind.i64.wrap (a*d)=Z:=by rw[e5];exact IntWalk.i64_in _ (by omega)
     have v6:IntKind.i64.wrap (s+Z)=B:=by rw[e6];exact IntWalk.i64_in _ (by omega)
     have v7:IntKind.i64.wrap (k*b)=kb:=by rw[e7];exact IntWalk.i64_in _ (by omega)
     have v8:IntKind.i64.wrap (kb+d)=E:=by rw[e8];exact IntWalk.i64_in _ (by omega)
     clear e1 e2 e3 e4 e5 e6 e7 e8 hG M;have x0:=I.1.at_ 0 rfl;have x1:=I.1.at_ 1 rfl;have x2:=I.1.at_ 2 rfl;have x3:=I.1.at_ 3 rfl;have f0:=I.1.free_ 0;have f1:=I.1.free_ 1;have f2:=I.1.free_ 2;have f3:=I.1.free_ 3;go_wp2
     (try simp only[Exit.inBlock,Exit.then])
     exact bodyPost_ret (v:=.tuple #[.agg #[.int .i64 A,.int .i64 B,.int .i64 k,.int .i64 E],.bool true]) (by rw[results_cell_tmp rfl];go_simp) rfl ⟨.inr ⟨A,B,k,E,rfl,bE.1,r1,r2,r3,r4⟩,((((bB.1.setCell J.1 _).setCell J.1 _).setCell J.1 _).setCell J.1 _)⟩
    ·have nE:x<m:=by
      rcases Nat.lt_or_ge x m with h|h
      ·exact h
      ·have:=HR.1
       exact absurd hD.1 (bG.1 r (by omega))
     have nD:(x:Int)<(m:Int):=by omega
     obtain⟨q,hq⟩:∃q,z.tdiv m=q:=⟨_,rfl⟩
     have gA:q.natAbs<=27649:=by rw[<-hq,Int.natAbs_tdiv];exact mH (Nat.div_le_self _ _) (by omega)
     have wq:IntKind.i64.wrap q=q:=IntWalk.i64_in _ (by omega);obtain⟨u,hu⟩:∃u,q*m=u:=⟨_,rfl⟩
     have gN:=Jw (x:=q) (y:=(m:Int)) (A:=27649) (B:=216) gA (by omega);rw[hu]at gN;have wm:IntKind.i64.wrap (q*m)=u:=by rw[hu];exact IntWalk.i64_in _ (by omega)
     have hO:(z != u)=true:=by
      rw[bne_iff_ne];intro h;exact hdv ⟨q,by rw[h,<-hu,Int.mul_comm]⟩
     have hB:=Kh (show ∀y:Nat,y<x+1->¬(m:Int)∣y*d - 1 from λy hy=>by
      rcases Nat.lt_or_ge y x with h|h
      ·exact bG.1 y h
      ·obtain rfl:y=x:=by omega
       rw[bA];exact hdv)
     clear hP hz bA hdv bH hu gN M bG;go_wp2;go_roundw
     case rel=>exact⟨x+1,by omega,by go_num,trivial,hB.1⟩
     case measure=>simp[intOf];omega
 ·have hJ:((gd:Int) != 1)=true:=by rw[bne_iff_ne];omega
  have x0:=I.1.at_ 0 rfl;have x1:=I.1.at_ 1 rfl;have x2:=I.1.at_ 2 rfl;have x3:=I.1.at_ 3 rfl;have f0:=I.1.free_ 0;have f1:=I.1.free_ 1;have f2:=I.1.free_ 2;have f3:=I.1.free_ 3;clear M O;go_wp2
  (try simp only[Exit.inBlock,Exit.then])
  exact bodyPost_ret (v:=.tuple #[.agg #[.int .i64 0,.int .i64 0,.int .i64 0,.int .i64 0],.bool false]) (by rw[results_cell_tmp rfl];go_simp) rfl ⟨.inl rfl,((((bB.1.setCell J.1 _).setCell J.1 _).setCell J.1 _).setCell J.1 _)⟩
end
theorem kX {n v:Nat} (hn:2<=n) (M:v<n):Fj n (n+v)=true/\E4 n (n+v)=true:=by
 have O:(n+v) / n=1:=by rw[Nat.add_comm,Nat.add_div_right _ (by omega),Nat.div_eq_of_lt M]
 have U:(n+v) % n=v:=by rw[Nat.add_comm,Nat.add_mod_right,Nat.mod_eq_of_lt M]
 refine⟨?_,?_⟩
 ·unfold Fj
  rw[List.all_eq_true];intro i _;rw[Bool.or_eq_true,decide_eq_true_eq];by_cases hp:pun n (i+1)=true
  ·refine .inr ?_
   unfold Az;rw[O,U,Nat.mul_one];obtain⟨r,hr⟩:∃r,(i+1) % n=r:=⟨_,rfl⟩
   have V:r≠0:=by
    intro h;rw[h]at hr;have I:n∣i+1:=Nat.dvd_of_mod_eq_zero hr;have J:Nat.gcd (i+1) n=n:=Nat.gcd_eq_right I;simp only[pun,beq_iff_eq]at hp;omega
   rw[hr];by_cases I:r=1
   ·have J:(i+1)*v % n=v:=by rw[Nat.mul_mod,hr,I,Nat.one_mul,Nat.mod_mod,Nat.mod_eq_of_lt M]
    rw[I,J];omega
   ·have J:2*n<=r*n:=Nat.mul_le_mul_right _ (by omega)
    omega
  ·exact .inl (by simp at hp ⊢;exact hp)
 ·unfold E4
  rw[O,U,Nat.gcd_one_left,Nat.gcd_one_left];rfl
theorem kZ {n k m:Nat} (h:k<=m):(pts n k).length<=(pts n m).length:=by
 induction m with
 | zero=>rw[Nat.le_zero.1 h];exact mG _
 | succ m ih=>
  rcases Nat.lt_or_ge k (m+1)with I|I
  ·have J:=ih (by omega)
   rw[Cn];split
   ·rw[List.length_append];omega
   ·exact J
  ·rw[Nat.le_antisymm h I];exact mG _
theorem kY {n:Nat} (hn:0<n):n<=(pts n (n*n)).length:=by
 rcases Nat.lt_or_ge 1 n with h|h
 ·have J:∀j,j<=n->j<=(pts n (n+j)).length:=by
   intro j;induction j with
   | zero=>intro _;exact Nat.zero_le _
   | succ j ih=>
    intro V;obtain⟨I,M⟩:=kX (n:=n) (v:=j) h (by omega)
    have O:n+j<n*n:=by
     have U:2*n<=n*n:=Nat.mul_le_mul_right _ h;omega
    rw[<-Nat.add_assoc,Yb hn O,I,M];have:=ih (by omega);simp only[Bool.and_self,if_true,List.length_append,List.length_singleton];omega
  have I:=J n (mG _);exact mH I (kZ (by have U:2*n<=n*n:=Nat.mul_le_mul_right _ h;omega))
 ·obtain rfl:n=1:=by omega
  decide
section
open Go.RowKit Eli Tryz
theorem Eb (N k D:Int):∃J:Bool,(∀W,Calls prog 10 #[.agg #[.int .i64 N,.int .i64 k,.int .i64 D]] W λe w'=>e=.returned (.bool J)/\Below W.heap.size W w')/\(J=false->∀n wt:Nat,N=n->k=(wt:Int)+2->Pl.check N k D=0->cntF n wt<=72):=by
 by_cases hck:Pl.check N k D=0
 ·obtain⟨Y,Z,h3,h4,_,_⟩:=Aj hck
  obtain⟨n,rfl⟩:∃n:Nat,N=n:=⟨N.toNat,by omega⟩
  obtain⟨wt,rfl⟩:∃wt:Nat,k=(wt:Int)+2:=⟨(k - 2).toNat,by omega⟩
  refine⟨_,λW=>Zp n wt D W hck,λM O I U V _=>?_⟩;obtain rfl:n=O:=by omega
  obtain rfl:wt=I:=by omega
  have h:=of_decide_eq_false M;unfold cntF;omega
 ·exact⟨false,λW=>Oi N k D W hck,λ_ n wt _ _ h=>absurd h hck⟩
theorem St {x:Nat->Int} {I k:Nat} (J:∀k,k<I->-128<=x k/\x k<=127):hq (F8 x I k)<=1:=by
 refine Cz (by omega) (Be.2 ?_) (Be.2 ?_)
 ·split
  ·rename_i h
   have:=J k h;omega
  ·decide
 ·omega
theorem Yh (P:Program) (x y z u:Int):∃M,(∀(I:Array TypeId) (t:TypeId) (w:World),(Builtin.max_ I t #[.int .i64 x,.int .i64 y,.int .i64 z,.int .i64 u]).run P w=.ok (.int .i64 M) w)/\x<=M/\y<=M/\z<=M/\u<=M:=by
 refine⟨(λa=>if u > a then u else a) ((λa=>if z > a then z else a) (if y > x then y else x)),λI t w=>by simp[Builtin.max_,Builtin.max2],?_⟩;dsimp only;split <;> split <;> split <;> omega
theorem Yi (P:Program) (x y:Int):∃M,(∀(I:Array TypeId) (t:TypeId) (w:World),(Builtin.min_ I t #[.int .i64 x,.int .i64 y]).run P w=.ok (.int .i64 M) w)/\M<=x/\M<=y:=by
 refine⟨if y<x then y else x,λI t w=>by simp[Builtin.min_,Builtin.min2],?_⟩;split <;> omega
end
end Go.Proofs.YtenlbhlllgppmaaGreatDoor
