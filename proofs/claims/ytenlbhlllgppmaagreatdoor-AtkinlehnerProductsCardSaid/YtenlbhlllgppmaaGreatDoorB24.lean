/- Contract of symbols.New: the space of modular symbols, given what manin.Relations returns. -/
import Derived.Test.YtenlbhlllgppmaaGreatDoorB23
set_option maxRecDepth 100000
set_option maxHeartbeats 8000000
namespace Go.Proofs.YtenlbhlllgppmaaGreatDoor
open Go.RowKit Eli Tryz
def Wf (R C:Nat) (f:Nat->Int) (e:Ending) (w':World):Prop:=
 ∃gA oA cA,e=.returned (.tuple #[.agg #[.int .i64 R,.int .i64 C,.slice (some ⟨gA,oA,none⟩) (R*C:Nat) cA],.int .i64 0])/\gA<w'.heap.size/\(∀j,j<R*C->ZE (f j) w' gA (oA+j*2))/\R*C<=cA/\cA<=9223372036854775807
theorem RowTab.start {X X':Nat->Nat->Rat} {N:Nat} {w w':World} {GR C B B' J:Nat} (h:RowTab X N w GR C C B) (I:Below B' w w') (O:GR<B'):RowTab X' N w' GR C C J:=
 ⟨⟨nT h.stk.1 I.size,λi v Y=>h.stk.2 i v ((I.cell (p:=⟨GR,i,none⟩) O).symm.trans Y)⟩,
  λi U=>(World.frozen?_of_block (a:=⟨GR,i,none⟩) (I.block GR O)).trans (h.free i U),
  λi U=>by rw[I.cell (p:=⟨GR,i,none⟩) O];exact h.has i U,
  λj Z V=>absurd V (by omega)⟩
theorem NL.but {l:List Nat} {w w':World} {B G:Nat} {v:Value} (h:NL l w B v) (hg:w.grownBy w' (some G)) (U:∀g,v.ownBlock=some g->g≠G):NL l w' B v:=by
 rcases h with h |⟨g,cap,e,V,J,O,Z⟩
 ·exact .inl h
 ·exact .inr ⟨g,cap,e,V,J,O,λj x Y=>hg.cell (Z j x Y) (λI=>by injection I with I;exact U g (by rw[e];rfl) I)⟩
theorem T3 (X:Nat->Nat->Rat) (h:Nat->Nat) (r:List (Nat×Rat)) (i:Nat):Ef (λj i=>X j (h i)) r i=Ef X r (h i):=by
 induction r with
 | nil=>rfl
 | cons x r ih=>rw[Ef,Ef,ih]
theorem dB {L:Nat->List (Nat×Rat)} {C j i:Nat} (Z:j<C) (hl:L j=[]) (J:i<(frs L C).length):(frs L C).getD i 0=j↔i=(frs L j).length:=by
 obtain⟨I,O⟩:=Yg L Z hl;have V:(frs L C).getD i 0=(frs L C)[i]:=by rw[List.getD_eq_getElem?_getD,List.getElem?_eq_getElem J];rfl
 have Y:(frs L C)[(frs L j).length]=j:=by rw[List.getElem?_eq_getElem I]at O;injection O
 have U:=List.pairwise_iff_getElem.1 (Hu L C);rw[V];constructor
 ·intro e
  rcases Nat.lt_trichotomy i (frs L j).length with h|h|h
  ·have:=U i _ J I h;omega
  ·exact h
  ·have:=U _ i I J h;omega
 ·intro e;subst e;exact Y
theorem Wy (N k D:Int) (R C:Nat) (f:Nat->Int) (w:World) (hrel:∀w1,Below w.heap.size w w1->Calls prog 47 #[.agg #[.int .i64 N,.int .i64 k,.int .i64 D]] w1 λe w'=>Wf R C f e w'/\Below w1.heap.size w1 w')
  (hR:R<=1000) (h0:0<C) (hC:C<=72) (hf:∀j,(f j).natAbs<=16777216):
  Calls prog 11 #[.agg #[.int .i64 N,.int .i64 k,.int .i64 D]] w λe w'=>(∃M,e=.returned (.tuple #[.pointer (some ⟨M,0,none⟩),.int .i64 0])/\(w.heap.size<=M/\∀v g,w'.cell? ⟨M,3,none⟩=some v->v.ownBlock=some g->w.heap.size<=g)/\ModAt w' M w'.heap.size N k D (frs (elim C (Ce C f) R) C) C (B5 (elim C (Ce C f) R) C C))/\Below w.heap.size w w':=by
 have oT:=Kh hrel;have hX:=Kh (Good.elim (n:=C) (B:=16777216) (by omega) (Df hf) (D1 C f) R);have HF:=Kh hf;have uO:=kW C (by omega);obtain⟨L,hL⟩:∃L,elim C (Ce C f) R=L:=⟨_,rfl⟩
 rw[hL]at hX ⊢;have HL:=Kh hL;clear hrel hf hL;go_enter func11,ntmps11
 go_wp2_with fail
 obtain⟨w0,sQ,X0,hI⟩:=bx1 w #[.int .i64 N,.int .i64 k,.int .i64 D] 23;rw[sQ];have vY:∀(w:World) (a:Option Addr) (n c n' c':Nat),(binOp .eql 107 (.slice a n c) (.slice none n' c')).run prog w=.ok (.bool a.isNone) w:=λw a n c n' c'=>Lib.run_eql_slice_nil w _ _ a n c n' c' underlying107
 have rL:=Kh X0;have tF:=Kh hI;clear sQ;refine(oT.1 w0 hI).mono ?_;rintro e w1 ⟨⟨gA,oA,cA,rfl,sC,hA,sA,sB⟩,pO⟩;go_wp2_with fail
 have pF:=Kh (hI.trans (pO.mono hI.size));have rM:=Kh ((rL.1.below_ pO (by have:=X0.lt;exact this)));obtain⟨w2,sR,X2,mB⟩:=bx1 w1 #[.int .i64 R,.int .i64 C,.slice (some ⟨gA,oA,none⟩) (R*C) cA] 99;rw[sR];have rN:=Kh (bk rM mB);refine(Pc R C gA oA cA f w2 (nT sC mB.size) (λj hj=>(hA j hj).keep mB) hR h0 hC sA sB HF.1).mono ?_;rintro e w3 ⟨⟨G,rfl,uH,oB⟩,cT⟩;rw[HL.1]at oB;have nD:=Kh oB;have pE:=Kh (pF.1.trans ((mB.trans (cT.mono mB.size)).mono pF.1.size));have oI:=Kh (bk rN cT);have a0:=oI.1.at_ 0 rfl;have a1:=oI.1.at_ 1 rfl;have a2:=oI.1.at_ 2 rfl;clear X0 hI pO sC hA sA sB sR X2 mB oB cT oT HL HF rL rM rN pF tF uH;go_upto_region 5 with(fail)
 have Z:=Kh (show ∀w4,Below w3.heap.size w3 w4->(w4.cell? ⟨w.heap.size,0,none⟩=some (.int .i64 N)/\w4.cell? ⟨w.heap.size,1,none⟩=some (.int .i64 k)/\w4.cell? ⟨w.heap.size,2,none⟩=some (.int .i64 D))from λw4 hb=>⟨cell_next hb a0,cell_next hb a1,cell_next hb a2⟩);have oK:=Z.1 _ (Below.refl _ w3).drew
 go_region_held3 (λw4=>w4.cell? ⟨w.heap.size,0,none⟩=some (.int .i64 N)/\w4.cell? ⟨w.heap.size,1,none⟩=some (.int .i64 k)/\w4.cell? ⟨w.heap.size,2,none⟩=some (.int .i64 D))
  (first|with_reducible exact oK|exact Z.1 _ ((Below.refl _ w3).drew.alloc (nR _) _)|exact Z.1 _ (((Below.refl _ w3).alloc (nR _) _).drew)|exact Z.1 _ (((Below.refl _ w3).drew.alloc (nR _) _).alloc (Nat.le_of_lt (by simp)) _)|exact Z.1 _ ((((Below.refl _ w3).alloc (nR _) _).drew).alloc (Nat.le_of_lt (by simp)) _) |(exfalso;assumption))
  (fail)
 all_goals go_wp2
 obtain⟨wn,oC⟩:∃wn,((w3.alloc (.cells (madeCells #[.slice none 0 0] C) 30)).alloc (.cells #[.int .i64 N,.int .i64 k,.int .i64 D,.slice none 0 0,.slice (some ⟨w3.heap.size,0,none⟩) C C] 106)).drew=wn:=⟨_,rfl⟩
 have pQ:Below w3.heap.size w3 (w3.alloc (.cells (madeCells #[.slice none 0 0] C) 30)):=(Below.refl _ _).alloc (nR _) _;have pR:Below (w3.alloc (.cells (madeCells #[.slice none 0 0] C) 30)).heap.size (w3.alloc (.cells (madeCells #[.slice none 0 0] C) 30)) wn:=oC▸((Below.refl _ _).alloc (nR _) _).drew;have pY:(w3.alloc (.cells (madeCells #[.slice none 0 0] C) 30)).heap.size=w3.heap.size+1:=by simp
 have oO:wn.heap.size=w3.heap.size+1+1:=by
  have uM:∀x:World,x.drew.heap.size=x.heap.size:=λ_=>rfl
  rw[<-oC,uM];simp
 obtain⟨F,hF⟩:∃F,frs L C=F:=⟨_,rfl⟩
 have hG:=Kh hF;have rS:F.length<=C:=hF▸E8 L C;have V:=RowTab.made (λj i=>B5 L C 0 j (F.getD i 0)) F.length w3 C;have V:=(V.keep (Nat.le_of_eq pY.symm) pR)
 have hJ:Blk wn (w3.heap.size+1) 106 #[.int .i64 N,.int .i64 k,.int .i64 D,.slice none 0 0,.slice (some ⟨w3.heap.size,0,none⟩) C C]:=by
  have h:=Blk.new (w3.alloc (.cells (madeCells #[.slice none 0 0] C) 30)) 106 #[.int .i64 N,.int .i64 k,.int .i64 D,.slice none 0 0,.slice (some ⟨w3.heap.size,0,none⟩) C C];rw[pY]at h;exact oC▸h.below_ (Below.refl _ _).drew h.lt
 have pI:=Kh (pQ.trans (pR.mono pQ.size));rw[oC];obtain⟨GR,hB⟩:∃GR,w3.heap.size=GR:=⟨_,rfl⟩
 obtain⟨M,hM⟩:∃M,GR+1=M:=⟨_,rfl⟩
 have iL:=Kh (show w.heap.size<=GR from hB▸pE.1.size);have rA:=Kh (show ∀w',Below GR w3 w'->LeadTab L w' G C GR from λw' hb=>hB▸nD.1.keep (nR _) (hB▸hb));have nC:=Kh (show G<GR from hB▸nD.1.stk.1);rw[hB]at pI;rw[hB]at V hJ oO ⊢;rw[hM]at V hJ oO ⊢;have oU:=Kh V;have rB:=Kh hJ;have wD:=Kh oO;have tJ:=Kh (pE.1.trans (pI.1.mono iL.1));have wC:=Kh hB;have gU:=Kh hM;have qY:=Kh rS;clear V hJ oO oC pQ pR pY Z oK hB hM hF rS a0 a1 a2 oI nD uO pE;go_loopw [34] (λii wr=>∃(j:Nat) (fv:Value),j<=C/\ii=.int .i64 j/\Blk wr M 106 #[.int .i64 N,.int .i64 k,.int .i64 D,fv,.slice (some ⟨GR,0,none⟩) C C]/\OwnN (frs L j) wr (M+1) fv/\Below M wn wr) (λii _=>C - (intOf ii).toNat)
 case atStart=>exact⟨0,_,Nat.zero_le _,rfl,rB.1,OwnN.nil _ _,Below.refl _ _⟩
 case round=>
  obtain⟨j,fv,hj,rfl,hJ,pB,pS⟩:=hrel;have U:=Kh hJ;have bE:=Kh pB;have oF:=Kh pS;have qQ:=Kh (pI.1.trans (pS.mono (gU.1▸Nat.le_succ _)));clear hJ pB pS rB;by_cases hjc:j<C
  ·have vQ:(j:Int)<(C:Int):=by omega
   obtain⟨lv,l0,hO,cX⟩:=(rA.1 wr qQ.1).val j hjc;by_cases hL0:L j=[]
   ·obtain rfl:=cX hL0
    have hY:=Kh hL0;have m3:=U.1.at_ 3 rfl;have f3:=U.1.free_ 3;clear hL0 cX hO;obtain⟨xs,rT⟩:∃xs,OwnK NotU32 wr (M+1) 3 1 fv (frs L j).length xs/\xs=(frs L j).map λn:Nat=>Value.int .i64 (n:Int):=⟨_,bE.1,rfl⟩
    have oG:=Kh rT;have uK:=U.1.lt;have qZ:=Kh (nS (E8 L j) hj);clear rT;go_wp2_with (at_builtin;refine B9 NotU32 rfl (.tmp 45) (.tmp 47) _ 3 rfl underlying93 Fc rfl (by decide) (M+1) (frs L j).length fv xs [.int .i64 (j:Int)] rfl oG.1.1 rfl rfl (by intro u hu;simp at hu;subst hu;rfl) (by have:=qZ.1;omega) (by have:=qZ.1;omega) (by omega) (by intro u hu;simp at hu;subst hu;exact λ_ h=>by cases h) (by intro u hu;simp[Value.cells]at hu;subst hu;exact λ_ h=>by cases h) ?_;intro v9 w9 hN oZ rV;obtain⟨p9,c9,rfl⟩:=Ba hN.1;have rE:=Kh hN;have qX:=Kh oZ;have sF:=qX.1.block M uK (λe=>by have:=Cn oG.1.1.1 e;omega);have hT:Blk w9 M 106 #[.int .i64 N,.int .i64 k,.int .i64 D,fv,.slice (some ⟨GR,0,none⟩) C C]:=(by have h:=U.1;unfold Blk at h ⊢;rw[sF];exact h);have rC:=Kh hT;have n3:=hT.at_ 3 rfl;have wQ:=hT.free_ 3;clear hN oZ rV sF hT)
    have qU:=Kh (show Below M wn w9 from oF.1.trans ((A7 (Below.refl _ _) oG.1.1.1 qX.1 (nR _) (by omega)).mono (Nat.le_succ M)))
    have tO:=Kh (show OwnN (frs L (j+1)) (w9.setCell ⟨M,3,none⟩ (.slice p9 ((frs L j).length+1) c9)) (M+1) (.slice p9 ((frs L j).length+1) c9)by
     rw[Dm,if_pos hY.1];refine OwnN.push ?_;rw[<-oG.1.2];exact⟨ownsRow_setCell_below rE.1.1 (nU M) _,λg hg=>Bd (rE.1.2 g hg) _ _ (λ_ h=>by cases h)⟩)
    go_roundw
    case rel=>exact⟨j+1,_,by omega,by go_num,rC.1.set_ 3 _,tO.1,qU.1.setCell (p:=⟨M,3,none⟩) (nR _) _⟩
    case measure=>simp[intOf];omega
   ·obtain⟨b,hb⟩:=(hX.1.head j).resolve_left hL0
    have dE:=hO;rw[hb]at dE;obtain⟨gl,ol,cl,rfl,_,_,_,_,_⟩:=dE.cons;have hY:=Kh (show frs L (j+1)=frs L j by rw[Dm,if_neg hL0]);clear hL0 cX hO dE hb;go_wp2;go_roundw
    case rel=>exact⟨j+1,fv,by omega,by go_num,U.1,by rw[hY.1];exact bE.1,oF.1⟩
    case measure=>simp[intOf];omega
  ·obtain rfl:C=j:=by omega
   obtain⟨pf,cf,rfl⟩:=Ba (show OwnK NotU32 wr (M+1) 3 1 fv (frs L C).length _ from bE.1).1;rw[hG.1]at bE U;obtain⟨wp,rfl⟩:∃wp:World,wp=wr:=⟨_,rfl⟩
   have gF:=Kh (λg (hg:(Value.slice pf F.length cf).ownBlock=some g)=>show g≠GR by
    have h1:=Cn (show OwnK NotU32 wp (M+1) 3 1 (.slice pf F.length cf) F.length _ from bE.1).1 hg.symm;have:=gU.1;omega)
   have tM:=Kh (λg (hg:(Value.slice pf F.length cf).ownBlock=some g)=>Cn (show OwnK NotU32 wp (M+1) 3 1 (.slice pf F.length cf) F.length _ from bE.1).1 hg.symm);have tN:=Kh (show NL F wp wp.heap.size (.slice pf F.length cf)from OwnN.nl bE.1);have rK:=Kh (show RowTab (λj i=>B5 L C 0 j (F.getD i 0)) F.length wp GR C C wp.heap.size from oU.1.start oF.1 (gU.1▸nU GR));have m3:=U.1.at_ 3 rfl;have wB:=Kh (show(frs L C).length=F.length by rw[hG.1]);have qS:=Kh (show GR<=wp.heap.size by have:=U.1.lt;have:=gU.1;omega);have pN:M≠GR:=by have:=gU.1;omega
   have vR:=Hx F.length (by have:=qY.1;omega);clear bE oU;have vM:F.length<=72:=nS qY.1 hC;go_wp2_with fail
   go_loopw [10,11] (λuT qH I=>∃q:Nat,q<=C/\uT=.int .i64 ((frs L (C - q)).length:Nat)/\qH=.int .i64 ((C:Int) - 1 - (q:Nat))/\RowTab (λj i=>B5 L C q j (F.getD i 0)) F.length I GR C (C - q) I.heap.size/\wp.grownBy I (some GR)/\I32 wp I) (λ_ qH _=>(intOf qH+1).toNat)
   case atStart=>exact⟨0,Nat.zero_le _,by rw[Nat.sub_zero,hG.1],by congr 1;omega,by rw[Nat.sub_zero];exact rK.1,Af GR (Below.refl _ _),I32.refl _⟩
   case round=>
    obtain⟨q,sI,rfl,rfl,sL,pV,rR⟩:=hrel;obtain⟨I,rfl⟩:∃I:World,I=wr:=⟨_,rfl⟩
    have cD:=Kh pV;have qP:=Kh rR;have Y:=Kh sL;have tI:=Kh (show Below GR w3 I from Ae qQ.1 pV qS.1 (nR _));clear sL pV rR rK m3;by_cases hqC:q<C
    ·obtain⟨j,hj⟩:∃j,j+1+q=C:=⟨C - 1 - q,by omega⟩
     have oJ:(C:Int) - 1 - (q:Int)=(j:Nat):=by omega
     have ej:C - q=j+1:=by omega
     have wK:(0:Int)<=(j:Int):=by omega
     have dY:j<C:=by omega
     have vP:(j:Int)<(C:Int):=by omega
     rw[oJ,ej];rw[ej]at Y;have eP:=Kh hj;have m3:=cD.1.cell (U.1.at_ 3 rfl) (λe=>by injection e with e;exact pN e);have m4:=cD.1.cell (U.1.at_ 4 rfl) (λe=>by injection e with e;exact pN e);clear oJ ej hj
     have nB:=Kh (show ∀w8,Below I.heap.size I w8->QRow (λi=>IsQ (Eli.newRow L (B5 L C q) j (F.getD i 0))) w8 I.heap.size F.length F.length ->
       RowTab (λj i=>B5 L C (q+1) j (F.getD i 0)) F.length (w8.setCell ⟨GR,j,none⟩ (.slice (some ⟨I.heap.size,0,none⟩) F.length F.length)) GR C (C - (q+1)) (w8.setCell ⟨GR,j,none⟩ (.slice (some ⟨I.heap.size,0,none⟩) F.length F.length)).heap.size /\
       wp.grownBy (w8.setCell ⟨GR,j,none⟩ (.slice (some ⟨I.heap.size,0,none⟩) F.length F.length)) (some GR)/\I32 wp (w8.setCell ⟨GR,j,none⟩ (.slice (some ⟨I.heap.size,0,none⟩) F.length F.length))by
      intro w8 hb V;have h1:=(Y.1.keep (nR _) hb).up hb.size;have e1:C - (q+1)=j:=by have:=eP.1;omega
      have e2:C - 1 - q=j:=by have:=eP.1;omega
      rw[e1];refine⟨(h1.put (X':=λj i=>B5 L C (q+1) j (F.getD i 0)) dY V.sts.1 (Nat.ne_of_gt Y.1.stk.1) (λi hi=>?_) (λj' h1 h2 i hi=>?_)).up (Nat.le_of_eq (by simp)),(cD.1.trans (Af GR hb)).trans (Ad w8 GR j _),(qP.1.trans (I32.below hb)).trans (I32.putU (h1.stk.imp λ_=>SliceV.notU32) j _)⟩
      ·have h:=V.val i hi
       have e3:B5 L C (q+1) j (F.getD i 0)=Eli.newRow L (B5 L C q) j (F.getD i 0):=by rw[B5];simp only;rw[if_pos e2.symm]
       rw[e3];exact h
      ·rw[B5];simp only;rw[if_neg (by omega)])
     go_wp2_with fail
     have pX:=QRow.made (λ_=>IsQ 0) I F.length;obtain⟨wx,qA⟩:∃wx,I.alloc (.cells (madeCells #[.bool false,.slice none 0 0,.bool false,.slice none 0 0] (F.length*4)) 86)=wx:=⟨_,rfl⟩
     have rZ:Below I.heap.size I wx:=qA▸(Below.refl _ _).alloc (nR _) _;rw[qA]at pX ⊢;have rJ:=Kh pX;have qV:=Kh rZ;clear pX rZ qA;go_loopw [72] (λii w6=>∃i:Nat,i<=F.length/\ii=.int .i64 i/\QRow (λ_=>IsQ 0) w6 I.heap.size F.length i/\Below I.heap.size I w6) (λii _=>F.length - (intOf ii).toNat)
     case atStart=>exact⟨0,Nat.zero_le _,rfl,rJ.1,qV.1⟩
     case round=>
      obtain⟨i,hi,rfl,V,rW⟩:=hrel;obtain⟨w6,rfl⟩:∃w6:World,w6=wr:=⟨_,rfl⟩
      have bC:=Kh V;have gS:=Kh rW;clear V rW rJ qV;by_cases hiF:i<F.length
      ·have wJ:(i:Int)<(F.length:Int):=by omega
       go_wp2_with fail
       refine(En 0 w6 (by omega) (by omega)).mono ?_;rintro e w7 ⟨⟨s3,p3,n3,c3,t3,q3,hP,d3,rfl,nZ⟩,cT⟩;have J:=QRow.keep (λ_=>IsQ.solid _) bC.1 cT;have tP:=Kh (QRow.set (k':=i+1) (λ_=>IsQ.solid _) J i hiF (λ_=>IsQ 0) (IsQ.solid _) (λi' h1 h2=>⟨by omega,rfl⟩) (show IsQ 0 w7 s3 p3 n3 c3 t3 q3 hP d3 from nZ));have tG:=bt gS cT;obtain⟨u0,sN⟩:=nV (J.has (i*4) (by omega));obtain⟨u1,sO⟩:=nV (J.has (i*4+1) (by omega));obtain⟨u2,hu2⟩:=nV (J.has (i*4+2) (by omega));obtain⟨u3,sP⟩:=nV (J.has (i*4+3) (by omega));have f0:=J.free (i*4) (by omega);have f1:=J.free (i*4+1) (by omega);have f2:=J.free (i*4+2) (by omega);have f3:=J.free (i*4+3) (by omega);clear nZ cT J;go_wp2;go_roundw
       case rel=>exact⟨i+1,by omega,by go_num,tP.1,Bb tG.1⟩
       case measure=>simp[intOf];omega
      ·obtain rfl:F.length=i:=by omega
       obtain⟨lv,l5,hO,cX⟩:=(rA.1 I tI.1).val j dY;have l0:=cell_next gS.1 l5;clear l5;by_cases hL0:L j=[]
       ·obtain rfl:=cX hL0
        have oM:=Yg L dY hL0;have oN:=λi (hi:i<F.length)=>dB (i:=i) dY hL0 (by rw[hG.1];exact hi)
        have pL:(frs L (j+1)).length=(frs L j).length+1:=by rw[Dm,if_pos hL0,List.length_append];rfl
        rw[hG.1]at oM oN;obtain⟨pos,nY⟩:∃pos,(frs L j).length=pos:=⟨_,rfl⟩
        rw[nY]at oM oN pL;rw[pL];have qW:=Kh oN;have sG:=oM.1;have hY:=Kh hL0;have rF:=Kh nY;have wN:(pos:Int)<(F.length:Int):=by omega
        have wM:(0:Int)<=(pos:Int):=by omega
        clear hL0 cX hO oM oN pL nY;go_wp2_with fail
        refine(En 1 w6 (by omega) (by omega)).mono ?_;rintro e w7 ⟨⟨s3,p3,n3,c3,t3,q3,hP,d3,rfl,nZ⟩,cT⟩;have J:=QRow.keep (λ_=>IsQ.solid _) bC.1 cT
        have sH:=QRow.set (k':=F.length) (λ_=>IsQ.solid _) J pos sG (λi=>IsQ (Eli.newRow L (B5 L C q) j (F.getD i 0))) (IsQ.solid _) (λi' h1 h2=>⟨h1,by
         show IsQ 0=_;rw[Eli.newRow,if_pos hY.1,if_neg (λe=>h2 ((qW.1 i' h1).1 e))]⟩) (show IsQ (Eli.newRow L (B5 L C q) j (F.getD pos 0)) w7 s3 p3 n3 c3 t3 q3 hP d3 by
         rw[Eli.newRow,if_pos hY.1,if_pos ((qW.1 pos sG).2 rfl)];exact nZ)
        have pP:=gS.1.trans (cT.mono gS.1.size);have O:=Kh (nB.1 _ (Bb pP) sH);obtain⟨u0,sN⟩:=nV (J.has (pos*4) (by omega));obtain⟨u1,sO⟩:=nV (J.has (pos*4+1) (by omega));obtain⟨u2,hu2⟩:=nV (J.has (pos*4+2) (by omega));obtain⟨u3,sP⟩:=nV (J.has (pos*4+3) (by omega));have f0:=J.free (pos*4) (by omega);have f1:=J.free (pos*4+1) (by omega);have f2:=J.free (pos*4+2) (by omega);have f3:=J.free (pos*4+3) (by omega);have gL:Below I.heap.size I ((((w7.setCell ⟨I.heap.size,pos*4,none⟩ (.bool s3)).setCell ⟨I.heap.size,pos*4+1,none⟩ (.slice p3 n3 c3)).setCell ⟨I.heap.size,pos*4+2,none⟩ (.bool t3)).setCell ⟨I.heap.size,pos*4+3,none⟩ (.slice q3 hP d3)):=Bb pP;have m8:=cell_next gL m4;have cG:=Y.1.keep (nR _) gL;obtain⟨uG,mA⟩:=nV (cG.has j dY);have mC:=cG.free j dY;have oH:=Kh (And.intro m8 (And.intro mA mC));have HQ:=Kh (show(C:Int) - 1 - ((q+1:Nat):Int)=(j:Int) - 1 by have:=eP.1;omega);have mE:=Kh (show C - (q+1)=j by have:=eP.1;omega);clear nZ cT J sH pP gL m8 cG mA mC m3 m4;go_upto_region 30 with(fail)
        have m8:=oH.1.1;have mA:=oH.1.2.1;have mC:=oH.1.2.2;obtain⟨w8,sS⟩:∃w8,((((w7.setCell ⟨I.heap.size,pos*4,none⟩ (.bool s3)).setCell ⟨I.heap.size,pos*4+1,none⟩ (.slice p3 n3 c3)).setCell ⟨I.heap.size,pos*4+2,none⟩ (.bool t3)).setCell ⟨I.heap.size,pos*4+3,none⟩ (.slice q3 hP d3))=w8:=⟨_,rfl⟩
        rw[sS]at m8 mA mC O ⊢;clear sS oH sN sO hu2 sP f0 f1 f2 f3;go_wp2;go_roundw
        case rel=>exact⟨q+1,by omega,by rw[mE.1,rF.1],by rw[HQ.1],O.1.1,O.1.2.1,O.1.2.2⟩
        case measure=>simp[intOf]
       ·obtain⟨b,hb⟩:=(hX.1.head j).resolve_left hL0
        have dE:=hO;rw[hb]at dE;obtain⟨gl,ol,cl,rfl,pU,vN,sD,_,pZ⟩:=dE.cons;have hU:=hX.1.ord j;rw[hb]at hU;have oS:=Kh hU.2.2.2;have qT:=Kh (show ∀x,x∈b->hq x.2<=80 from λx hx=>nS (hX.1.size j x (by rw[hb];exact List.mem_cons_of_mem _ hx)) (Om hC (nR _)));have pG:=Kh (show b.length<=72 from nS (D6 hU.2.2.2) (by omega));have hZ:=Kh (And.intro hb hL0);have uL:b.length<=cl:=pU;have rX:b.length<=72:=pG.1;clear hL0 cX hO dE hb hU;rcases Nat.eq_zero_or_pos cl with oY|oY
        ·subst oY
         have hI:b=[]:=List.eq_nil_of_length_eq_zero (by omega);subst hI;have hQ:=Kh (show QRow (λf=>IsQ (Ef (λj i=>B5 L C q j (F.getD i 0)) (List.take 0 ([]:List (Nat×Rat))).reverse f)) w6 I.heap.size F.length F.length from bC.1);clear pZ pU sD uL rX bC;rw[List.length_nil]at l0;go_wp2_with fail
         go_loopw [97] (λii w8=>ii=.int .i64 0/\QRow (λf=>IsQ (Ef (λj i=>B5 L C q j (F.getD i 0)) (List.take 0 ([]:List (Nat×Rat))).reverse f)) w8 I.heap.size F.length F.length/\Below I.heap.size I w8) (λ_ _=>0)
         case atStart=>exact⟨rfl,hQ.1,gS.1⟩
         case round=>
          obtain⟨rfl,dC,gL⟩:=hrel;obtain⟨w8,rfl⟩:∃w8:World,w8=wr:=⟨_,rfl⟩
          have cF:=Kh dC;have cC:=Kh gL;clear dC gL hQ gS l0;have O:=Kh (nB.1 w8 cC.1 (QRow.congr cF.1 (λf hf=>by rw[T3 (B5 L C q) (λi=>F.getD i 0),Eli.newRow,if_neg hZ.1.2,hZ.1.1];rfl)));have cG:=Y.1.keep (nR _) cC.1;have m8:=cell_next cC.1 m4;obtain⟨uG,mA⟩:=nV (cG.has j dY);have mC:=cG.free j dY;have HQ:=Kh (show(C:Int) - 1 - ((q+1:Nat):Int)=(j:Int) - 1 by have:=eP.1;omega);have mE:=Kh (show C - (q+1)=j by have:=eP.1;omega);have nA:=Kh (show(frs L (j+1)).length=(frs L j).length by rw[Dm,if_neg hZ.1.2]);clear cG;go_wp2;go_roundw
          case rel=>exact⟨q+1,by omega,by rw[mE.1,nA.1],by rw[HQ.1],O.1.1,O.1.2.1,O.1.2.2⟩
          case measure=>simp[intOf]
        go_wp2_with fail
        have tU:=Kh pZ;have rU:=Y.1.stk.1;clear pZ l0 pU sD;have rH:=Kh (show QRow (λf=>IsQ (Ef (λj i=>B5 L C q j (F.getD i 0)) (b.take 0).reverse f)) w6 I.heap.size F.length F.length from bC.1);clear bC;go_loopw [97] (λii w8=>∃i:Nat,i<=b.length/\ii=.int .i64 i/\QRow (λf=>IsQ (Ef (λj i=>B5 L C q j (F.getD i 0)) (b.take i).reverse f)) w8 I.heap.size F.length F.length/\Below I.heap.size I w8) (λii _=>b.length - (intOf ii).toNat)
        case atStart=>exact⟨0,Nat.zero_le _,rfl,rH.1,gS.1⟩
        case round=>
         obtain⟨i,hi,rfl,dC,gL⟩:=hrel;obtain⟨w8,rfl⟩:∃w8:World,w8=wr:=⟨_,rfl⟩
         have cF:=Kh dC;have cC:=Kh gL;clear dC gL rH gS;by_cases hib:i<b.length
         ·have vO:(i:Int)<(b.length:Int):=by omega
          obtain⟨y,hy⟩:∃y,b[i]?=some y:=⟨_,List.getElem?_eq_getElem hib⟩
          have sU:y∈b:=List.mem_of_getElem? hy;rcases tU.1 with⟨h0,_⟩ |⟨gb,ob,vJ,e,_,_,uN,sM⟩
          ·rw[h0]at hib;simp at hib
          cases e;obtain⟨e0,s,p,n,c,t,q',m',d',e1,e2,e3,e4,sJ⟩:=(sM i y hy).next uN (I32.below cC.1) (cC.1.mono (Nat.le_of_lt rU))
          have tR:=Kh (show Qs w8 s p n c t q' m' d' y.2 from sJ);clear sM sJ;go_wp2_with fail
          obtain⟨wb,oP⟩:∃wb,w8.alloc (.cells #[.int .i64 (y.1:Int),.bool s,.slice p n c,.bool t,.slice q' m' d'] 110)=wb:=⟨_,rfl⟩
          have oL:Below w8.heap.size w8 wb:=oP▸(Below.refl _ _).alloc (nR _) _;have X:=oP▸Blk.new w8 110 #[.int .i64 (y.1:Int),.bool s,.slice p n c,.bool t,.slice q' m' d'];rw[oP];obtain⟨gt,sE⟩:∃gt,w8.heap.size=gt:=⟨_,rfl⟩
          rw[sE]at X ⊢
          obtain⟨hv1,hv2,uP⟩:j+1<=y.1/\y.1<C/\y.2≠0:=by
           obtain⟨_,h1,h2,h3⟩:=Dw oS.1 y sU;exact⟨h1,h2,h3⟩
          have wP:(y.1:Int)<(C:Int):=by omega
          have HV:=Kh (And.intro hv1 hv2);have hS:=cC.1.trans (oL.mono cC.1.size);obtain⟨gr,rr,nX,pW,sK⟩:=Y.1.val y.1 hv1 hv2;have tS:=Kh (λw' (hb:Below I.heap.size I w') i (hi:i<F.length)=>(sK i hi).next nX (I32.below hb) hb);have nC:=Kh nX;have b0:=X.at_ 0 rfl;have b1:=X.at_ 1 rfl;have b2:=X.at_ 2 rfl;have b3:=X.at_ 3 rfl;have b4:=X.at_ 4 rfl;have mm:=cell_next hS m4;have sV:=cell_next hS rr;have Z:=Kh (show ∀w',Below wb.heap.size wb w'->(w'.cell? ⟨gt,0,none⟩=some (.int .i64 (y.1:Int))/\w'.cell? ⟨gt,1,none⟩=some (.bool s)/\w'.cell? ⟨gt,2,none⟩=some (.slice p n c)/\w'.cell? ⟨gt,3,none⟩=some (.bool t)/\w'.cell? ⟨gt,4,none⟩=some (.slice q' m' d')/\w'.cell? ⟨M,4,none⟩=some (.slice (some ⟨GR,0,none⟩) C C)/\w'.cell? ⟨GR,y.1,none⟩=some (.slice (some ⟨gr,0,none⟩) F.length F.length))from λw' hb=>⟨cell_next hb b0,cell_next hb b1,cell_next hb b2,cell_next hb b3,cell_next hb b4,cell_next hb mm,cell_next hb sV⟩);have gF:=Kh (show gt≠I.heap.size/\M≠I.heap.size/\GR≠I.heap.size from⟨by have:=cF.1.sts.1;omega,Nat.ne_of_lt (World.block_lt_of_cell? I ⟨M,4,none⟩ m4),Nat.ne_of_lt rU⟩);have tQ:=Kh (tR.1.keep oL);have pH:=Kh (cF.1.keep (λ_=>IsQ.solid _) oL);have gP:=Kh hS;have rP:=Kh (qT.1 y sU)
          have rO:=Kh (show ∀t1 i,j+1<=t1->t1<C->i<F.length->hq (B5 L C q t1 (F.getD i 0))<=80 from λt1 i h1 h2 h3=>by
           have hm:F.getD i 0∈frs L C:=by
            rw[hG.1,List.getD_eq_getElem?_getD,List.getElem?_eq_getElem h3];exact List.getElem_mem h3
           obtain⟨f1,f2⟩:=Ht.1 hm;exact nS (Pr (by omega) hX.1 (by have:=eP.1;omega) sI h2 f1 f2) (Om hC (nR _)))
          have tL:=Kh (show ∀f,f<F.length->hq (Ef (λj i=>B5 L C q j (F.getD i 0)) (b.take i).reverse f)<=100000 from λf hf=>by
           have h1:=Qx (X:=(λj i=>B5 L C q j (F.getD i 0))) (K:=80) (f:=f) (b.take i).reverse (λx hx=>qT.1 x (List.mem_of_mem_take (List.mem_reverse.1 hx))) (λx hx=>by
            obtain⟨_,h1,h2,_⟩:=Dw oS.1 x (List.mem_of_mem_take (List.mem_reverse.1 hx));exact rO.1 x.1 f h1 h2 hf)
           have h2:(b.take i).reverse.length<=72:=by rw[List.length_reverse,List.length_take];omega
           have h3:=Nat.mul_le_mul_right (2*80+1) h2;omega)
          have tV:=Kh (show ∀f,Ef (λj i=>B5 L C q j (F.getD i 0)) (b.take (i+1)).reverse f=Ef (λj i=>B5 L C q j (F.getD i 0)) (b.take i).reverse f+-y.2*B5 L C q y.1 (F.getD f 0)from λf=>by
           rw[List.take_add_one,hy,Option.toList_some,List.reverse_append];rfl)
          have oK:=Z.1 _ (Below.refl _ wb).drew;clear oP oL X hS rr sV sK b0 b1 b2 b3 b4 mm nX pW sE e0 e1 e2 e3 e4 hv1 hv2 uP;go_upto_region 28 with(fail)
          go_region_held3 (λw'=>w'.cell? ⟨gt,0,none⟩=some (.int .i64 (y.1:Int))/\w'.cell? ⟨gt,1,none⟩=some (.bool s)/\w'.cell? ⟨gt,2,none⟩=some (.slice p n c)/\w'.cell? ⟨gt,3,none⟩=some (.bool t)/\w'.cell? ⟨gt,4,none⟩=some (.slice q' m' d')/\w'.cell? ⟨M,4,none⟩=some (.slice (some ⟨GR,0,none⟩) C C)/\w'.cell? ⟨GR,y.1,none⟩=some (.slice (some ⟨gr,0,none⟩) F.length F.length))
           (first|with_reducible exact oK|with_reducible exact tT.1|exact Z.1 _ bY |(exfalso;assumption))
           (first
            |(go_at_call 51;refine(Jn s p n c t q' m' d' y.2 _ (tQ.1.keep (by first|exact(Below.refl _ wb).drew|exact Below.refl _ wb)) (by have:=rP.1;omega)).mono ?_;rintro e w9 ⟨⟨s3,p3,n3,c3,t3,q3,hP,d3,rfl,uR⟩,rY⟩;have bY:Below wb.heap.size wb w9:=(by first|exact(Below.refl _ wb).drew.trans rY|exact rY))
            |(go_at_call 50;refine(bS I.heap.size F.length F.length _ (λf=>Ef (λj i=>B5 L C q j (F.getD i 0)) (b.take i).reverse f) (λf=>B5 L C q y.1 (F.getD f 0)) s3 p3 n3 c3 t3 q3 hP d3 (-y.2) w9 (pH.1.keep (λ_=>IsQ.solid _) bY) (by
              have oX:=gP.1.trans (bY.mono gP.1.size);exact .inr ⟨gr,0,F.length,rfl,Nat.ne_of_lt nC.1,nT nC.1 oX.size,λf hf=>by rw[Nat.zero_add];exact tS.1 w9 oX f hf⟩) uR (by rw[N7];have:=rP.1;omega) (λf hf=>⟨by have:=tL.1 f hf;omega,by have:=rO.1 y.1 f HV.1.1 HV.1.2 hf;omega⟩) (by omega)).mono ?_;rintro e hE ⟨⟨va,rfl⟩,hV,aX,pM⟩;have rI:=Kh hV;have uW:=Kh aX;have tT:=Kh (show hE.cell? ⟨gt,0,none⟩=some (.int .i64 (y.1:Int))/\hE.cell? ⟨gt,1,none⟩=some (.bool s)/\hE.cell? ⟨gt,2,none⟩=some (.slice p n c)/\hE.cell? ⟨gt,3,none⟩=some (.bool t)/\hE.cell? ⟨gt,4,none⟩=some (.slice q' m' d')/\hE.cell? ⟨M,4,none⟩=some (.slice (some ⟨GR,0,none⟩) C C)/\hE.cell? ⟨GR,y.1,none⟩=some (.slice (some ⟨gr,0,none⟩) F.length F.length)from⟨aX.cell (Z.1 _ bY).1 (λe=>gF.1.1 (by injection e)),aX.cell (Z.1 _ bY).2.1 (λe=>gF.1.1 (by injection e)),aX.cell (Z.1 _ bY).2.2.1 (λe=>gF.1.1 (by injection e)),aX.cell (Z.1 _ bY).2.2.2.1 (λe=>gF.1.1 (by injection e)),aX.cell (Z.1 _ bY).2.2.2.2.1 (λe=>gF.1.1 (by injection e)),aX.cell (Z.1 _ bY).2.2.2.2.2.1 (λe=>gF.1.2.1 (by injection e)),aX.cell (Z.1 _ bY).2.2.2.2.2.2 (λe=>gF.1.2.2 (by injection e))⟩);have qR:=Kh (show Below I.heap.size I hE from Ae (gP.1.trans (bY.mono gP.1.size)) aX (nS gP.1.size bY.size) (nR _));clear hV aX pM))
          all_goals go_wp2
          all_goals go_roundw
          all_goals first
           | exact⟨i+1,by omega,by go_num,QRow.congr rI.1 (λf hf=>by rw[tV.1 f]),qR.1⟩
           |(simp[intOf];omega)
         ·obtain rfl:b.length=i:=by omega
          have O:=Kh (nB.1 w8 cC.1 (QRow.congr cF.1 (λf hf=>by rw[List.take_length,T3 (B5 L C q) (λi=>F.getD i 0),Eli.newRow,if_neg hZ.1.2,hZ.1.1];rfl)));have cG:=Y.1.keep (nR _) cC.1;have m8:=cell_next cC.1 m4;obtain⟨uG,mA⟩:=nV (cG.has j dY);have mC:=cG.free j dY;have HQ:=Kh (show(C:Int) - 1 - ((q+1:Nat):Int)=(j:Int) - 1 by have:=eP.1;omega);have mE:=Kh (show C - (q+1)=j by have:=eP.1;omega);have nA:=Kh (show(frs L (j+1)).length=(frs L j).length by rw[Dm,if_neg hZ.1.2]);clear cG;go_wp2;go_roundw
          case rel=>exact⟨q+1,by omega,by rw[mE.1,nA.1],by rw[HQ.1],O.1.1,O.1.2.1,O.1.2.2⟩
          case measure=>simp[intOf]
    ·obtain rfl:C=q:=by omega
     have oJ:(C:Int) - 1 - (C:Int)=-1:=by omega
     rw[oJ];have vS:¬((0:Int)<=-1):=by omega
     rw[Nat.sub_self]at Y;have oV:=Kh (show wp.heap.size<=I.heap.size from cD.1.size);have hc:∀i v,i<5->(#[.int .i64 N,.int .i64 k,.int .i64 D,.slice pf F.length cf,.slice (some ⟨GR,0,none⟩) C C]:Array Value)[i]?=some v->I.cell? ⟨M,i,none⟩=some v:=λi v _ e=>cD.1.cell (U.1.at_ i e) (λe=>by injection e with e;exact pN e)
     have tK:=Kh (hc 3 _ (by omega) rfl)
     have rD:=Kh (show ModAt I M I.heap.size N k D F C (B5 L C C)from
      ⟨nT U.1.lt oV.1,hc 0 _ (by omega) rfl,hc 1 _ (by omega) rfl,hc 2 _ (by omega) rfl,⟨_,hc 3 _ (by omega) rfl,(tN.1.but cD.1 gF.1).up oV.1⟩,GR,hc 4 _ (by omega) rfl,Y.1.stk.1,λj hj=>by
       obtain⟨g,e,hg,_,hq⟩:=Y.1.val j (Nat.zero_le _) hj;refine⟨g,e,hg,λi f hf=>?_⟩
       have hi:i<F.length:=by
        rcases Nat.lt_or_ge i F.length with h|h
        ·exact h
        ·rw[List.getElem?_eq_none h]at hf;cases hf
       have h:=hq i hi;have e:F.getD i 0=f:=by rw[List.getD_eq_getElem?_getD,hf];rfl
       rw[e]at h;exact h⟩)
     have tH:=Kh (show Below w.heap.size w I from Ae (tJ.1.trans (oF.1.mono (by have:=iL.1;have:=gU.1;omega))) cD.1 (nS iL.1 qS.1) iL.1);clear hc;go_wp2
     (first|go_ret2|go_ret)
     exact⟨⟨M,rfl,⟨by have:=iL.1;have:=gU.1;omega,λv g hv hg=>by
      have e:=hv.symm.trans tK.1;injection e with e
      subst e;have h1:=tM.1 g hg;have:=iL.1;have:=gU.1;omega⟩,by rw[hG.1];exact rD.1⟩,tH.1⟩
theorem Up (N k D Z:Int) (w:World) (hrel:∀Y,Below w.heap.size w Y->Calls prog 47 #[.agg #[.int .i64 N,.int .i64 k,.int .i64 D]] Y λe w'=>(∃a b,e=.returned (.tuple #[.agg #[.int .i64 a,.int .i64 b,.slice none 0 0],.int .i64 Z]))/\Below Y.heap.size Y w') (he:Z≠0):
  Calls prog 11 #[.agg #[.int .i64 N,.int .i64 k,.int .i64 D]] w λe w'=>e=.returned (.tuple #[.pointer none,.int .i64 Z])/\Below w.heap.size w w':=by
 have J:=Kh hrel;clear hrel;go_enter func11,ntmps11
 go_wp2_with fail
 obtain⟨w0,V,h,I⟩:=bx1 w #[.int .i64 N,.int .i64 k,.int .i64 D] 23;rw[V];clear V h;refine(J.1 w0 I).mono ?_;rintro e Y ⟨⟨a,b,rfl⟩,U⟩;have O:=Kh (I.trans (U.mono I.size));have bA:(Z != 0)=true:=by simpa using he
 clear I U J;go_wp2
 (first|go_ret2|go_ret)
 exact⟨rfl,O.1.alloc O.1.size _⟩
end Go.Proofs.YtenlbhlllgppmaaGreatDoor
