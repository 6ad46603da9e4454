/- Contract of symbols.New: the space of modular symbols, given what manin.Relations returns. -/
import Derived.Test.YtenlbhlllgppmaaGreatDoorA22
set_option maxRecDepth 100000
set_option maxHeartbeats 8000000
namespace Go.Proofs.YtenlbhlllgppmaaGreatDoor
open Go.RowKit Eli Tryz
def Vb (R C:Nat) (f:Nat->Int) (e:Ending) (w':World):Prop:=
 ∃gA oA cA,e=.returned (.tuple #[.agg #[.int .i64 R,.int .i64 C,.slice (some ⟨gA,oA,none⟩) (R*C:Nat) cA],.int .i64 0])/\gA<w'.heap.size/\(∀j,j<R*C->ZE (f j) w' gA (oA+j*2))/\R*C<=cA/\cA<=9223372036854775807
theorem RowTab.start {X X':Nat->Nat->Rat} {N:Nat} {w w':World} {GR C B B' J:Nat} (h:RowTab X N w GR C C B) (I:Below B' w w') (M:GR<B'):RowTab X' N w' GR C C J:=
 ⟨⟨mI h.stk.1 I.size,λi v V=>h.stk.2 i v ((I.cell (p:=⟨GR,i,none⟩) M).symm.trans V)⟩,
  λi O=>(World.frozen?_of_block (a:=⟨GR,i,none⟩) (I.block GR M)).trans (h.free i O),
  λi O=>by rw[I.cell (p:=⟨GR,i,none⟩) M];exact h.has i O,
  λj Y U=>absurd U (by omega)⟩
theorem NL.but {l:List Nat} {w w':World} {B G:Nat} {v:Value} (h:NL l w B v) (hg:w.grownBy w' (some G)) (O:∀g,v.ownBlock=some g->g≠G):NL l w' B v:=by
 rcases h with h |⟨g,cap,e,U,J,M,Y⟩
 ·exact .inl h
 ·exact .inr ⟨g,cap,e,U,J,M,λj x V=>hg.cell (Y j x V) (λI=>by injection I with I;exact O g (by rw[e];rfl) I)⟩
theorem S9 (X:Nat->Nat->Rat) (h:Nat->Nat) (r:List (Nat×Rat)) (i:Nat):D2 (λj i=>X j (h i)) r i=D2 X r (h i):=by
 induction r with
 | nil=>rfl
 | cons x r ih=>rw[D2,D2,ih]
theorem aI {L:Nat->List (Nat×Rat)} {C j i:Nat} (Y:j<C) (Z:L j=[]) (J:i<(frs L C).length):(frs L C).getD i 0=j↔i=(frs L j).length:=by
 obtain⟨I,M⟩:=Wq L Y Z;have U:(frs L C).getD i 0=(frs L C)[i]:=by rw[List.getD_eq_getElem?_getD,List.getElem?_eq_getElem J];rfl
 have V:(frs L C)[(frs L j).length]=j:=by rw[List.getElem?_eq_getElem I]at M;injection M
 have O:=List.pairwise_iff_getElem.1 (G2 L C);rw[U];constructor
 ·intro e
  rcases Nat.lt_trichotomy i (frs L j).length with h|h|h
  ·have:=O i _ J I h;omega
  ·exact h
  ·have:=O _ i I J h;omega
 ·intro e;subst e;exact V
theorem Vp (N k D:Int) (R C:Nat) (f:Nat->Int) (w:World) (hrel:∀w1,Below w.heap.size w w1->Calls prog 47 #[.agg #[.int .i64 N,.int .i64 k,.int .i64 D]] w1 λe w'=>Vb R C f e w'/\Below w1.heap.size w1 w')
  (hR:R<=1000) (h0:0<C) (hC:C<=72) (hf:∀j,(f j).natAbs<=16777216):
  Calls prog 11 #[.agg #[.int .i64 N,.int .i64 k,.int .i64 D]] w λe w'=>(∃M,e=.returned (.tuple #[.pointer (some ⟨M,0,none⟩),.int .i64 0])/\(w.heap.size<=M/\∀v g,w'.cell? ⟨M,3,none⟩=some v->v.ownBlock=some g->w.heap.size<=g)/\ModAt w' M w'.heap.size N k D (frs (elim C (Bv C f) R) C) C (Bk (elim C (Bv C f) R) C C))/\Below w.heap.size w w':=by
 have nB:=Kh hrel;have hJ:=Kh (Good.elim (n:=C) (B:=16777216) (by omega) (Cv hf) (Dl C f) R);have HF:=Kh hf;have sV:=iF C (by omega);obtain⟨L,hL⟩:∃L,elim C (Bv C f) R=L:=⟨_,rfl⟩
 rw[hL]at hJ ⊢;have HL:=Kh hL;clear hrel hf hL;go_enter func11,ntmps11
 go_wp2_with fail
 obtain⟨w0,qZ,X0,gN⟩:=bx1 w #[.int .i64 N,.int .i64 k,.int .i64 D] 23;rw[qZ];have uH:∀(w:World) (a:Option Addr) (n c n' c':Nat),(binOp .eql 107 (.slice a n c) (.slice none n' c')).run prog w=.ok (.bool a.isNone) w:=λw a n c n' c'=>Lib.run_eql_slice_nil w _ _ a n c n' c' underlying107
 have pU:=Kh X0;have rO:=Kh gN;clear qZ;refine(nB.1 w0 gN).mono ?_;rintro e w1 ⟨⟨gA,oA,cA,rfl,qL,hA,qJ,qK⟩,nW⟩;go_wp2_with fail
 have nN:=Kh (gN.trans (nW.mono gN.size));have pV:=Kh ((pU.1.below_ nW (by have:=X0.lt;exact this)));obtain⟨w2,rA,X2,hS⟩:=bx1 w1 #[.int .i64 R,.int .i64 C,.slice (some ⟨gA,oA,none⟩) (R*C) cA] 99;rw[rA];have pW:=Kh (bk pV hS);refine(Oo R C gA oA cA f w2 (mI qL hS.size) (λj hj=>(hA j hj).keep hS) hR h0 hC qJ qK HF.1).mono ?_;rintro e w3 ⟨⟨G,rfl,sO,mD⟩,cB⟩;rw[HL.1]at mD;have hZ:=Kh mD;have nM:=Kh (nN.1.trans ((hS.trans (cB.mono hS.size)).mono nN.1.size));have mQ:=Kh (bk pW cB);have a0:=mQ.1.at_ 0 rfl;have a1:=mQ.1.at_ 1 rfl;have a2:=mQ.1.at_ 2 rfl;clear X0 gN nW qL hA qJ qK rA X2 hS mD cB nB HL HF pU pV pW nN rO sO;go_upto_region 5 with(fail)
 have Z:=Kh (show ∀w4,Below w3.heap.size w3 w4->(w4.cell? ⟨w.heap.size,0,none⟩=some (.int .i64 N)/\w4.cell? ⟨w.heap.size,1,none⟩=some (.int .i64 k)/\w4.cell? ⟨w.heap.size,2,none⟩=some (.int .i64 D))from λw4 hb=>⟨cell_next hb a0,cell_next hb a1,cell_next hb a2⟩);have mS:=Z.1 _ (Below.refl _ w3).drew
 go_region_held3 (λw4=>w4.cell? ⟨w.heap.size,0,none⟩=some (.int .i64 N)/\w4.cell? ⟨w.heap.size,1,none⟩=some (.int .i64 k)/\w4.cell? ⟨w.heap.size,2,none⟩=some (.int .i64 D))
  (first|with_reducible exact mS|exact Z.1 _ ((Below.refl _ w3).drew.alloc (mG _) _)|exact Z.1 _ (((Below.refl _ w3).alloc (mG _) _).drew)|exact Z.1 _ (((Below.refl _ w3).drew.alloc (mG _) _).alloc (Nat.le_of_lt (by simp)) _)|exact Z.1 _ ((((Below.refl _ w3).alloc (mG _) _).drew).alloc (Nat.le_of_lt (by simp)) _) |(exfalso;assumption))
  (fail)
 all_goals go_wp2
 obtain⟨wn,mE⟩:∃wn,((w3.alloc (.cells (madeCells #[.slice none 0 0] C) 30)).alloc (.cells #[.int .i64 N,.int .i64 k,.int .i64 D,.slice none 0 0,.slice (some ⟨w3.heap.size,0,none⟩) C C] 106)).drew=wn:=⟨_,rfl⟩
 have nY:Below w3.heap.size w3 (w3.alloc (.cells (madeCells #[.slice none 0 0] C) 30)):=(Below.refl _ _).alloc (mG _) _;have nZ:Below (w3.alloc (.cells (madeCells #[.slice none 0 0] C) 30)).heap.size (w3.alloc (.cells (madeCells #[.slice none 0 0] C) 30)) wn:=mE▸((Below.refl _ _).alloc (mG _) _).drew;have oH:(w3.alloc (.cells (madeCells #[.slice none 0 0] C) 30)).heap.size=w3.heap.size+1:=by simp
 have mW:wn.heap.size=w3.heap.size+1+1:=by
  have sT:∀x:World,x.drew.heap.size=x.heap.size:=λ_=>rfl
  rw[<-mE,sT];simp
 obtain⟨F,hF⟩:∃F,frs L C=F:=⟨_,rfl⟩
 have gF:=Kh hF;have qB:F.length<=C:=hF▸Em L C;have V:=RowTab.made (λj i=>Bk L C 0 j (F.getD i 0)) F.length w3 C;have V:=(V.keep (Nat.le_of_eq oH.symm) nZ)
 have gP:Blk wn (w3.heap.size+1) 106 #[.int .i64 N,.int .i64 k,.int .i64 D,.slice none 0 0,.slice (some ⟨w3.heap.size,0,none⟩) C C]:=by
  have h:=Blk.new (w3.alloc (.cells (madeCells #[.slice none 0 0] C) 30)) 106 #[.int .i64 N,.int .i64 k,.int .i64 D,.slice none 0 0,.slice (some ⟨w3.heap.size,0,none⟩) C C];rw[oH]at h;exact mE▸h.below_ (Below.refl _ _).drew h.lt
 have nQ:=Kh (nY.trans (nZ.mono nY.size));rw[mE];obtain⟨GR,dY⟩:∃GR,w3.heap.size=GR:=⟨_,rfl⟩
 obtain⟨M,hM⟩:∃M,GR+1=M:=⟨_,rfl⟩
 have hP:=Kh (show w.heap.size<=GR from dY▸nM.1.size);have pJ:=Kh (show ∀w',Below GR w3 w'->LeadTab L w' G C GR from λw' hb=>dY▸hZ.1.keep (mG _) (dY▸hb));have hY:=Kh (show G<GR from dY▸hZ.1.stk.1);rw[dY]at nQ;rw[dY]at V gP mW ⊢;rw[hM]at V gP mW ⊢;have nC:=Kh V;have pK:=Kh gP;have uM:=Kh mW;have rS:=Kh (nM.1.trans (nQ.1.mono hP.1));have uL:=Kh dY;have dX:=Kh hM;have pH:=Kh qB;clear V gP mW mE nY nZ oH Z mS dY hM hF qB a0 a1 a2 mQ hZ sV nM;go_loopw [34] (λii wr=>∃(j:Nat) (fv:Value),j<=C/\ii=.int .i64 j/\Blk wr M 106 #[.int .i64 N,.int .i64 k,.int .i64 D,fv,.slice (some ⟨GR,0,none⟩) C C]/\OwnN (frs L j) wr (M+1) fv/\Below M wn wr) (λii _=>C - (intOf ii).toNat)
 case atStart=>exact⟨0,_,Nat.zero_le _,rfl,pK.1,OwnN.nil _ _,Below.refl _ _⟩
 case round=>
  obtain⟨j,fv,hj,rfl,gP,nJ,oB⟩:=hrel;have U:=Kh gP;have bA:=Kh nJ;have mN:=Kh oB;have oZ:=Kh (nQ.1.trans (oB.mono (dX.1▸Nat.le_succ _)));clear gP nJ oB pK;by_cases hjc:j<C
  ·have tX:(j:Int)<(C:Int):=by omega
   obtain⟨lv,l0,gU,cC⟩:=(pJ.1 wr oZ.1).val j hjc;by_cases hL0:L j=[]
   ·obtain rfl:=cC hL0
    have hN:=Kh hL0;have m3:=U.1.at_ 3 rfl;have f3:=U.1.free_ 3;clear hL0 cC gU;obtain⟨xs,qC⟩:∃xs,OwnK NotU32 wr (M+1) 3 1 fv (frs L j).length xs/\xs=(frs L j).map λn:Nat=>Value.int .i64 (n:Int):=⟨_,bA.1,rfl⟩
    have mO:=Kh qC;have sR:=U.1.lt;have pI:=Kh (mH (Em L j) hj);clear qC;go_wp2_with (at_builtin;refine Bj NotU32 rfl (.tmp 45) (.tmp 47) _ 3 rfl underlying93 Ep rfl (by decide) (M+1) (frs L j).length fv xs [.int .i64 (j:Int)] rfl mO.1.1 rfl rfl (by intro u hu;simp at hu;subst hu;rfl) (by have:=pI.1;omega) (by have:=pI.1;omega) (by omega) (by intro u hu;simp at hu;subst hu;exact λ_ h=>by cases h) (by intro u hu;simp[Value.cells]at hu;subst hu;exact λ_ h=>by cases h) ?_;intro v9 w9 gS nH qE;obtain⟨p9,c9,rfl⟩:=Bf gS.1;have pN:=Kh gS;have pG:=Kh nH;have qO:=pG.1.block M sR (λe=>by have:=Ch mO.1.1.1 e;omega);have hD:Blk w9 M 106 #[.int .i64 N,.int .i64 k,.int .i64 D,fv,.slice (some ⟨GR,0,none⟩) C C]:=(by have h:=U.1;unfold Blk at h ⊢;rw[qO];exact h);have pL:=Kh hD;have n3:=hD.at_ 3 rfl;have uZ:=hD.free_ 3;clear gS nH qE qO hD)
    have pD:=Kh (show Below M wn w9 from mN.1.trans ((Aw (Below.refl _ _) mO.1.1.1 pG.1 (mG _) (by omega)).mono (Nat.le_succ M)))
    have rX:=Kh (show OwnN (frs L (j+1)) (w9.setCell ⟨M,3,none⟩ (.slice p9 ((frs L j).length+1) c9)) (M+1) (.slice p9 ((frs L j).length+1) c9)by
     rw[C5,if_pos hN.1];refine OwnN.push ?_;rw[<-mO.1.2];exact⟨ownsRow_setCell_below pN.1.1 (mJ M) _,λg hg=>Bc (pN.1.2 g hg) _ _ (λ_ h=>by cases h)⟩)
    go_roundw
    case rel=>exact⟨j+1,_,by omega,by go_num,pL.1.set_ 3 _,rX.1,pD.1.setCell (p:=⟨M,3,none⟩) (mG _) _⟩
    case measure=>simp[intOf];omega
   ·obtain⟨b,hb⟩:=(hJ.1.head j).resolve_left hL0
    have cF:=gU;rw[hb]at cF;obtain⟨gl,ol,cl,rfl,_,_,_,_,_⟩:=cF.cons;have hN:=Kh (show frs L (j+1)=frs L j by rw[C5,if_neg hL0]);clear hL0 cC gU cF hb;go_wp2;go_roundw
    case rel=>exact⟨j+1,fv,by omega,by go_num,U.1,by rw[hN.1];exact bA.1,mN.1⟩
    case measure=>simp[intOf];omega
  ·obtain rfl:C=j:=by omega
   obtain⟨pf,cf,rfl⟩:=Bf (show OwnK NotU32 wr (M+1) 3 1 fv (frs L C).length _ from bA.1).1;rw[gF.1]at bA U;obtain⟨wp,rfl⟩:∃wp:World,wp=wr:=⟨_,rfl⟩
   have cV:=Kh (λg (hg:(Value.slice pf F.length cf).ownBlock=some g)=>show g≠GR by
    have h1:=Ch (show OwnK NotU32 wp (M+1) 3 1 (.slice pf F.length cf) F.length _ from bA.1).1 hg.symm;have:=dX.1;omega)
   have rV:=Kh (λg (hg:(Value.slice pf F.length cf).ownBlock=some g)=>Ch (show OwnK NotU32 wp (M+1) 3 1 (.slice pf F.length cf) F.length _ from bA.1).1 hg.symm);have rW:=Kh (show NL F wp wp.heap.size (.slice pf F.length cf)from OwnN.nl bA.1);have pT:=Kh (show RowTab (λj i=>Bk L C 0 j (F.getD i 0)) F.length wp GR C C wp.heap.size from nC.1.start mN.1 (dX.1▸mJ GR));have m3:=U.1.at_ 3 rfl;have uK:=Kh (show(frs L C).length=F.length by rw[gF.1]);have pB:=Kh (show GR<=wp.heap.size by have:=U.1.lt;have:=dX.1;omega);have nV:M≠GR:=by have:=dX.1;omega
   have tY:=Ir F.length (by have:=pH.1;omega);clear bA nC;have tT:F.length<=72:=mH pH.1 hC;go_wp2_with fail
   go_loopw [10,11] (λtA oQ I=>∃q:Nat,q<=C/\tA=.int .i64 ((frs L (C - q)).length:Nat)/\oQ=.int .i64 ((C:Int) - 1 - (q:Nat))/\RowTab (λj i=>Bk L C q j (F.getD i 0)) F.length I GR C (C - q) I.heap.size/\wp.grownBy I (some GR)/\I32 wp I) (λ_ oQ _=>(intOf oQ+1).toNat)
   case atStart=>exact⟨0,Nat.zero_le _,by rw[Nat.sub_zero,gF.1],by congr 1;omega,by rw[Nat.sub_zero];exact pT.1,Af GR (Below.refl _ _),I32.refl _⟩
   case round=>
    obtain⟨q,qR,rfl,rfl,qU,oE,qA⟩:=hrel;obtain⟨I,rfl⟩:∃I:World,I=wr:=⟨_,rfl⟩
    have bG:=Kh oE;have oY:=Kh qA;have Y:=Kh qU;have rR:=Kh (show Below GR w3 I from An oZ.1 oE pB.1 (mG _));clear qU oE qA pT m3;by_cases hqC:q<C
    ·obtain⟨j,hj⟩:∃j,j+1+q=C:=⟨C - 1 - q,by omega⟩
     have mR:(C:Int) - 1 - (q:Int)=(j:Nat):=by omega
     have ej:C - q=j+1:=by omega
     have uT:(0:Int)<=(j:Int):=by omega
     have cG:j<C:=by omega
     have tW:(j:Int)<(C:Int):=by omega
     rw[mR,ej];rw[ej]at Y;have cT:=Kh hj;have m3:=bG.1.cell (U.1.at_ 3 rfl) (λe=>by injection e with e;exact nV e);have m4:=bG.1.cell (U.1.at_ 4 rfl) (λe=>by injection e with e;exact nV e);clear mR ej hj
     have hX:=Kh (show ∀w8,Below I.heap.size I w8->QRow (λi=>IsQ (Eli.newRow L (Bk L C q) j (F.getD i 0))) w8 I.heap.size F.length F.length ->
       RowTab (λj i=>Bk L C (q+1) j (F.getD i 0)) F.length (w8.setCell ⟨GR,j,none⟩ (.slice (some ⟨I.heap.size,0,none⟩) F.length F.length)) GR C (C - (q+1)) (w8.setCell ⟨GR,j,none⟩ (.slice (some ⟨I.heap.size,0,none⟩) F.length F.length)).heap.size /\
       wp.grownBy (w8.setCell ⟨GR,j,none⟩ (.slice (some ⟨I.heap.size,0,none⟩) F.length F.length)) (some GR)/\I32 wp (w8.setCell ⟨GR,j,none⟩ (.slice (some ⟨I.heap.size,0,none⟩) F.length F.length))by
      intro w8 hb V;have h1:=(Y.1.keep (mG _) hb).up hb.size;have e1:C - (q+1)=j:=by have:=cT.1;omega
      have e2:C - 1 - q=j:=by have:=cT.1;omega
      rw[e1];refine⟨(h1.put (X':=λj i=>Bk L C (q+1) j (F.getD i 0)) cG V.sts.1 (Nat.ne_of_gt Y.1.stk.1) (λi hi=>?_) (λj' h1 h2 i hi=>?_)).up (Nat.le_of_eq (by simp)),(bG.1.trans (Af GR hb)).trans (Ai w8 GR j _),(oY.1.trans (I32.below hb)).trans (I32.putU (h1.stk.imp λ_=>SliceV.notU32) j _)⟩
      ·have h:=V.val i hi
       have e3:Bk L C (q+1) j (F.getD i 0)=Eli.newRow L (Bk L C q) j (F.getD i 0):=by rw[Bk];simp only;rw[if_pos e2.symm]
       rw[e3];exact h
      ·rw[Bk];simp only;rw[if_neg (by omega)])
     go_wp2_with fail
     have oG:=QRow.made (λ_=>IsQ 0) I F.length;obtain⟨wx,oJ⟩:∃wx,I.alloc (.cells (madeCells #[.bool false,.slice none 0 0,.bool false,.slice none 0 0] (F.length*4)) 86)=wx:=⟨_,rfl⟩
     have qI:Below I.heap.size I wx:=oJ▸(Below.refl _ _).alloc (mG _) _;rw[oJ]at oG ⊢;have pS:=Kh oG;have pE:=Kh qI;clear oG qI oJ;go_loopw [72] (λii w6=>∃i:Nat,i<=F.length/\ii=.int .i64 i/\QRow (λ_=>IsQ 0) w6 I.heap.size F.length i/\Below I.heap.size I w6) (λii _=>F.length - (intOf ii).toNat)
     case atStart=>exact⟨0,Nat.zero_le _,rfl,pS.1,pE.1⟩
     case round=>
      obtain⟨i,hi,rfl,V,qF⟩:=hrel;obtain⟨w6,rfl⟩:∃w6:World,w6=wr:=⟨_,rfl⟩
      have aX:=Kh V;have dE:=Kh qF;clear V qF pS pE;by_cases hiF:i<F.length
      ·have uS:(i:Int)<(F.length:Int):=by omega
       go_wp2_with fail
       refine(Ey 0 w6 (by omega) (by omega)).mono ?_;rintro e w7 ⟨⟨s3,p3,n3,c3,t3,q3,gX,d3,rfl,mC⟩,cB⟩;have J:=QRow.keep (λ_=>IsQ.solid _) aX.1 cB;have rY:=Kh (QRow.set (k':=i+1) (λ_=>IsQ.solid _) J i hiF (λ_=>IsQ 0) (IsQ.solid _) (λi' h1 h2=>⟨by omega,rfl⟩) (show IsQ 0 w7 s3 p3 n3 c3 t3 q3 gX d3 from mC));have rP:=bt dE cB;obtain⟨u0,qW⟩:=mK (J.has (i*4) (by omega));obtain⟨u1,qX⟩:=mK (J.has (i*4+1) (by omega));obtain⟨u2,hu2⟩:=mK (J.has (i*4+2) (by omega));obtain⟨u3,qY⟩:=mK (J.has (i*4+3) (by omega));have f0:=J.free (i*4) (by omega);have f1:=J.free (i*4+1) (by omega);have f2:=J.free (i*4+2) (by omega);have f3:=J.free (i*4+3) (by omega);clear mC cB J;go_wp2;go_roundw
       case rel=>exact⟨i+1,by omega,by go_num,rY.1,A5 rP.1⟩
       case measure=>simp[intOf];omega
      ·obtain rfl:F.length=i:=by omega
       obtain⟨lv,l5,gU,cC⟩:=(pJ.1 I rR.1).val j cG;have l0:=cell_next dE.1 l5;clear l5;by_cases hL0:L j=[]
       ·obtain rfl:=cC hL0
        have mU:=Wq L cG hL0;have mV:=λi (hi:i<F.length)=>aI (i:=i) cG hL0 (by rw[gF.1];exact hi)
        have nT:(frs L (j+1)).length=(frs L j).length+1:=by rw[C5,if_pos hL0,List.length_append];rfl
        rw[gF.1]at mU mV;obtain⟨pos,mB⟩:∃pos,(frs L j).length=pos:=⟨_,rfl⟩
        rw[mB]at mU mV nT;rw[nT];have pF:=Kh mV;have qP:=mU.1;have hN:=Kh hL0;have pO:=Kh mB;have uW:(pos:Int)<(F.length:Int):=by omega
        have uV:(0:Int)<=(pos:Int):=by omega
        clear hL0 cC gU mU mV nT mB;go_wp2_with fail
        refine(Ey 1 w6 (by omega) (by omega)).mono ?_;rintro e w7 ⟨⟨s3,p3,n3,c3,t3,q3,gX,d3,rfl,mC⟩,cB⟩;have J:=QRow.keep (λ_=>IsQ.solid _) aX.1 cB
        have qQ:=QRow.set (k':=F.length) (λ_=>IsQ.solid _) J pos qP (λi=>IsQ (Eli.newRow L (Bk L C q) j (F.getD i 0))) (IsQ.solid _) (λi' h1 h2=>⟨h1,by
         show IsQ 0=_;rw[Eli.newRow,if_pos hN.1,if_neg (λe=>h2 ((pF.1 i' h1).1 e))]⟩) (show IsQ (Eli.newRow L (Bk L C q) j (F.getD pos 0)) w7 s3 p3 n3 c3 t3 q3 gX d3 by
         rw[Eli.newRow,if_pos hN.1,if_pos ((pF.1 pos qP).2 rfl)];exact mC)
        have nX:=dE.1.trans (cB.mono dE.1.size);have O:=Kh (hX.1 _ (A5 nX) qQ);obtain⟨u0,qW⟩:=mK (J.has (pos*4) (by omega));obtain⟨u1,qX⟩:=mK (J.has (pos*4+1) (by omega));obtain⟨u2,hu2⟩:=mK (J.has (pos*4+2) (by omega));obtain⟨u3,qY⟩:=mK (J.has (pos*4+3) (by omega));have f0:=J.free (pos*4) (by omega);have f1:=J.free (pos*4+1) (by omega);have f2:=J.free (pos*4+2) (by omega);have f3:=J.free (pos*4+3) (by omega);have cX:Below I.heap.size I ((((w7.setCell ⟨I.heap.size,pos*4,none⟩ (.bool s3)).setCell ⟨I.heap.size,pos*4+1,none⟩ (.slice p3 n3 c3)).setCell ⟨I.heap.size,pos*4+2,none⟩ (.bool t3)).setCell ⟨I.heap.size,pos*4+3,none⟩ (.slice q3 gX d3)):=A5 nX;have m8:=cell_next cX m4;have bY:=Y.1.keep (mG _) cX;obtain⟨uG,hQ⟩:=mK (bY.has j cG);have hT:=bY.free j cG;have mP:=Kh (And.intro m8 (And.intro hQ hT));have HQ:=Kh (show(C:Int) - 1 - ((q+1:Nat):Int)=(j:Int) - 1 by have:=cT.1;omega);have hV:=Kh (show C - (q+1)=j by have:=cT.1;omega);clear mC cB J qQ nX cX m8 bY hQ hT m3 m4;go_upto_region 30 with(fail)
        have m8:=mP.1.1;have hQ:=mP.1.2.1;have hT:=mP.1.2.2;obtain⟨w8,rB⟩:∃w8,((((w7.setCell ⟨I.heap.size,pos*4,none⟩ (.bool s3)).setCell ⟨I.heap.size,pos*4+1,none⟩ (.slice p3 n3 c3)).setCell ⟨I.heap.size,pos*4+2,none⟩ (.bool t3)).setCell ⟨I.heap.size,pos*4+3,none⟩ (.slice q3 gX d3))=w8:=⟨_,rfl⟩
        rw[rB]at m8 hQ hT O ⊢;clear rB mP qW qX hu2 qY f0 f1 f2 f3;go_wp2;go_roundw
        case rel=>exact⟨q+1,by omega,by rw[hV.1,pO.1],by rw[HQ.1],O.1.1,O.1.2.1,O.1.2.2⟩
        case measure=>simp[intOf]
       ·obtain⟨b,hb⟩:=(hJ.1.head j).resolve_left hL0
        have cF:=gU;rw[hb]at cF;obtain⟨gl,ol,cl,rfl,oD,tU,qM,_,oI⟩:=cF.cons;have hE:=hJ.1.ord j;rw[hb]at hE;have nA:=Kh hE.2.2.2;have pC:=Kh (show ∀x,x∈b->hq x.2<=80 from λx hx=>mH (hJ.1.size j x (by rw[hb];exact List.mem_cons_of_mem _ hx)) (Ny hC (mG _)));have nO:=Kh (show b.length<=72 from mH (Dp hE.2.2.2) (by omega));have hO:=Kh (And.intro hb hL0);have sS:b.length<=cl:=oD;have qG:b.length<=72:=nO.1;clear hL0 cC gU cF hb hE;rcases Nat.eq_zero_or_pos cl with nG|nG
        ·subst nG
         have gN:b=[]:=List.eq_nil_of_length_eq_zero (by omega);subst gN;have gY:=Kh (show QRow (λf=>IsQ (D2 (λj i=>Bk L C q j (F.getD i 0)) (List.take 0 ([]:List (Nat×Rat))).reverse f)) w6 I.heap.size F.length F.length from aX.1);clear oI oD qM sS qG aX;rw[List.length_nil]at l0;go_wp2_with fail
         go_loopw [97] (λii w8=>ii=.int .i64 0/\QRow (λf=>IsQ (D2 (λj i=>Bk L C q j (F.getD i 0)) (List.take 0 ([]:List (Nat×Rat))).reverse f)) w8 I.heap.size F.length F.length/\Below I.heap.size I w8) (λ_ _=>0)
         case atStart=>exact⟨rfl,gY.1,dE.1⟩
         case round=>
          obtain⟨rfl,cD,cX⟩:=hrel;obtain⟨w8,rfl⟩:∃w8:World,w8=wr:=⟨_,rfl⟩
          have bH:=Kh cD;have bE:=Kh cX;clear cD cX gY dE l0;have O:=Kh (hX.1 w8 bE.1 (QRow.congr bH.1 (λf hf=>by rw[S9 (Bk L C q) (λi=>F.getD i 0),Eli.newRow,if_neg hO.1.2,hO.1.1];rfl)));have bY:=Y.1.keep (mG _) bE.1;have m8:=cell_next bE.1 m4;obtain⟨uG,hQ⟩:=mK (bY.has j cG);have hT:=bY.free j cG;have HQ:=Kh (show(C:Int) - 1 - ((q+1:Nat):Int)=(j:Int) - 1 by have:=cT.1;omega);have hV:=Kh (show C - (q+1)=j by have:=cT.1;omega);have hW:=Kh (show(frs L (j+1)).length=(frs L j).length by rw[C5,if_neg hO.1.2]);clear bY;go_wp2;go_roundw
          case rel=>exact⟨q+1,by omega,by rw[hV.1,hW.1],by rw[HQ.1],O.1.1,O.1.2.1,O.1.2.2⟩
          case measure=>simp[intOf]
        go_wp2_with fail
        have sD:=Kh oI;have qD:=Y.1.stk.1;clear oI l0 oD qM;have pQ:=Kh (show QRow (λf=>IsQ (D2 (λj i=>Bk L C q j (F.getD i 0)) (b.take 0).reverse f)) w6 I.heap.size F.length F.length from aX.1);clear aX;go_loopw [97] (λii w8=>∃i:Nat,i<=b.length/\ii=.int .i64 i/\QRow (λf=>IsQ (D2 (λj i=>Bk L C q j (F.getD i 0)) (b.take i).reverse f)) w8 I.heap.size F.length F.length/\Below I.heap.size I w8) (λii _=>b.length - (intOf ii).toNat)
        case atStart=>exact⟨0,Nat.zero_le _,rfl,pQ.1,dE.1⟩
        case round=>
         obtain⟨i,hi,rfl,cD,cX⟩:=hrel;obtain⟨w8,rfl⟩:∃w8:World,w8=wr:=⟨_,rfl⟩
         have bH:=Kh cD;have bE:=Kh cX;clear cD cX pQ dE;by_cases hib:i<b.length
         ·have tV:(i:Int)<(b.length:Int):=by omega
          obtain⟨y,hy⟩:∃y,b[i]?=some y:=⟨_,List.getElem?_eq_getElem hib⟩
          have rD:y∈b:=List.mem_of_getElem? hy;rcases sD.1 with⟨h0,_⟩ |⟨gb,ob,tQ,e,_,_,sU,qV⟩
          ·rw[h0]at hib;simp at hib
          cases e;obtain⟨e0,s,p,n,c,t,q',m',d',e1,e2,e3,e4,qS⟩:=(qV i y hy).next sU (I32.below bE.1) (bE.1.mono (Nat.le_of_lt qD))
          have sA:=Kh (show Qs w8 s p n c t q' m' d' y.2 from qS);clear qV qS;go_wp2_with fail
          obtain⟨wb,mX⟩:∃wb,w8.alloc (.cells #[.int .i64 (y.1:Int),.bool s,.slice p n c,.bool t,.slice q' m' d'] 110)=wb:=⟨_,rfl⟩
          have mT:Below w8.heap.size w8 wb:=mX▸(Below.refl _ _).alloc (mG _) _;have X:=mX▸Blk.new w8 110 #[.int .i64 (y.1:Int),.bool s,.slice p n c,.bool t,.slice q' m' d'];rw[mX];obtain⟨gt,qN⟩:∃gt,w8.heap.size=gt:=⟨_,rfl⟩
          rw[qN]at X ⊢
          obtain⟨hv1,hv2,sW⟩:j+1<=y.1/\y.1<C/\y.2≠0:=by
           obtain⟨_,h1,h2,h3⟩:=Df nA.1 y rD;exact⟨h1,h2,h3⟩
          have uY:(y.1:Int)<(C:Int):=by omega
          have HV:=Kh (And.intro hv1 hv2);have hB:=bE.1.trans (mT.mono bE.1.size);obtain⟨gr,rr,mA,oF,qT⟩:=Y.1.val y.1 hv1 hv2;have sB:=Kh (λw' (hb:Below I.heap.size I w') i (hi:i<F.length)=>(qT i hi).next mA (I32.below hb) hb);have hY:=Kh mA;have b0:=X.at_ 0 rfl;have b1:=X.at_ 1 rfl;have b2:=X.at_ 2 rfl;have b3:=X.at_ 3 rfl;have b4:=X.at_ 4 rfl;have mm:=cell_next hB m4;have rE:=cell_next hB rr;have Z:=Kh (show ∀w',Below wb.heap.size wb w'->(w'.cell? ⟨gt,0,none⟩=some (.int .i64 (y.1:Int))/\w'.cell? ⟨gt,1,none⟩=some (.bool s)/\w'.cell? ⟨gt,2,none⟩=some (.slice p n c)/\w'.cell? ⟨gt,3,none⟩=some (.bool t)/\w'.cell? ⟨gt,4,none⟩=some (.slice q' m' d')/\w'.cell? ⟨M,4,none⟩=some (.slice (some ⟨GR,0,none⟩) C C)/\w'.cell? ⟨GR,y.1,none⟩=some (.slice (some ⟨gr,0,none⟩) F.length F.length))from λw' hb=>⟨cell_next hb b0,cell_next hb b1,cell_next hb b2,cell_next hb b3,cell_next hb b4,cell_next hb mm,cell_next hb rE⟩);have cV:=Kh (show gt≠I.heap.size/\M≠I.heap.size/\GR≠I.heap.size from⟨by have:=bH.1.sts.1;omega,Nat.ne_of_lt (World.block_lt_of_cell? I ⟨M,4,none⟩ m4),Nat.ne_of_lt qD⟩);have rZ:=Kh (sA.1.keep mT);have nP:=Kh (bH.1.keep (λ_=>IsQ.solid _) mT);have dC:=Kh hB;have pY:=Kh (pC.1 y rD)
          have pX:=Kh (show ∀t1 i,j+1<=t1->t1<C->i<F.length->hq (Bk L C q t1 (F.getD i 0))<=80 from λt1 i h1 h2 h3=>by
           have hm:F.getD i 0∈frs L C:=by
            rw[gF.1,List.getD_eq_getElem?_getD,List.getElem?_eq_getElem h3];exact List.getElem_mem h3
           obtain⟨f1,f2⟩:=G1.1 hm;exact mH (O1 (by omega) hJ.1 (by have:=cT.1;omega) qR h2 f1 f2) (Ny hC (mG _)))
          have rU:=Kh (show ∀f,f<F.length->hq (D2 (λj i=>Bk L C q j (F.getD i 0)) (b.take i).reverse f)<=100000 from λf hf=>by
           have h1:=Pu (X:=(λj i=>Bk L C q j (F.getD i 0))) (K:=80) (f:=f) (b.take i).reverse (λx hx=>pC.1 x (List.mem_of_mem_take (List.mem_reverse.1 hx))) (λx hx=>by
            obtain⟨_,h1,h2,_⟩:=Df nA.1 x (List.mem_of_mem_take (List.mem_reverse.1 hx));exact pX.1 x.1 f h1 h2 hf)
           have h2:(b.take i).reverse.length<=72:=by rw[List.length_reverse,List.length_take];omega
           have h3:=Nat.mul_le_mul_right (2*80+1) h2;omega)
          have sE:=Kh (show ∀f,D2 (λj i=>Bk L C q j (F.getD i 0)) (b.take (i+1)).reverse f=D2 (λj i=>Bk L C q j (F.getD i 0)) (b.take i).reverse f+-y.2*Bk L C q y.1 (F.getD f 0)from λf=>by
           rw[List.take_add_one,hy,Option.toList_some,List.reverse_append];rfl)
          have mS:=Z.1 _ (Below.refl _ wb).drew;clear mX mT X hB rr rE qT b0 b1 b2 b3 b4 mm mA oF qN e0 e1 e2 e3 e4 hv1 hv2 sW;go_upto_region 28 with(fail)
          go_region_held3 (λw'=>w'.cell? ⟨gt,0,none⟩=some (.int .i64 (y.1:Int))/\w'.cell? ⟨gt,1,none⟩=some (.bool s)/\w'.cell? ⟨gt,2,none⟩=some (.slice p n c)/\w'.cell? ⟨gt,3,none⟩=some (.bool t)/\w'.cell? ⟨gt,4,none⟩=some (.slice q' m' d')/\w'.cell? ⟨M,4,none⟩=some (.slice (some ⟨GR,0,none⟩) C C)/\w'.cell? ⟨GR,y.1,none⟩=some (.slice (some ⟨gr,0,none⟩) F.length F.length))
           (first|with_reducible exact mS|with_reducible exact sC.1|exact Z.1 _ bB |(exfalso;assumption))
           (first
            |(go_at_call 51;refine(I1 s p n c t q' m' d' y.2 _ (rZ.1.keep (by first|exact(Below.refl _ wb).drew|exact Below.refl _ wb)) (by have:=pY.1;omega)).mono ?_;rintro e w9 ⟨⟨s3,p3,n3,c3,t3,q3,gX,d3,rfl,sY⟩,qH⟩;have bB:Below wb.heap.size wb w9:=(by first|exact(Below.refl _ wb).drew.trans qH|exact qH))
            |(go_at_call 50;refine(Zu I.heap.size F.length F.length _ (λf=>D2 (λj i=>Bk L C q j (F.getD i 0)) (b.take i).reverse f) (λf=>Bk L C q y.1 (F.getD f 0)) s3 p3 n3 c3 t3 q3 gX d3 (-y.2) w9 (nP.1.keep (λ_=>IsQ.solid _) bB) (by
              have nF:=dC.1.trans (bB.mono dC.1.size);exact .inr ⟨gr,0,F.length,rfl,Nat.ne_of_lt hY.1,mI hY.1 nF.size,λf hf=>by rw[Nat.zero_add];exact sB.1 w9 nF f hf⟩) sY (by rw[Nf];have:=pY.1;omega) (λf hf=>⟨by have:=rU.1 f hf;omega,by have:=pX.1 y.1 f HV.1.1 HV.1.2 hf;omega⟩) (by omega)).mono ?_;rintro e eV ⟨⟨va,rfl⟩,hG,aD,nU⟩;have pR:=Kh hG;have tD:=Kh aD;have sC:=Kh (show eV.cell? ⟨gt,0,none⟩=some (.int .i64 (y.1:Int))/\eV.cell? ⟨gt,1,none⟩=some (.bool s)/\eV.cell? ⟨gt,2,none⟩=some (.slice p n c)/\eV.cell? ⟨gt,3,none⟩=some (.bool t)/\eV.cell? ⟨gt,4,none⟩=some (.slice q' m' d')/\eV.cell? ⟨M,4,none⟩=some (.slice (some ⟨GR,0,none⟩) C C)/\eV.cell? ⟨GR,y.1,none⟩=some (.slice (some ⟨gr,0,none⟩) F.length F.length)from⟨aD.cell (Z.1 _ bB).1 (λe=>cV.1.1 (by injection e)),aD.cell (Z.1 _ bB).2.1 (λe=>cV.1.1 (by injection e)),aD.cell (Z.1 _ bB).2.2.1 (λe=>cV.1.1 (by injection e)),aD.cell (Z.1 _ bB).2.2.2.1 (λe=>cV.1.1 (by injection e)),aD.cell (Z.1 _ bB).2.2.2.2.1 (λe=>cV.1.1 (by injection e)),aD.cell (Z.1 _ bB).2.2.2.2.2.1 (λe=>cV.1.2.1 (by injection e)),aD.cell (Z.1 _ bB).2.2.2.2.2.2 (λe=>cV.1.2.2 (by injection e))⟩);have pA:=Kh (show Below I.heap.size I eV from An (dC.1.trans (bB.mono dC.1.size)) aD (mH dC.1.size bB.size) (mG _));clear hG aD nU))
          all_goals go_wp2
          all_goals go_roundw
          all_goals first
           | exact⟨i+1,by omega,by go_num,QRow.congr pR.1 (λf hf=>by rw[sE.1 f]),pA.1⟩
           |(simp[intOf];omega)
         ·obtain rfl:b.length=i:=by omega
          have O:=Kh (hX.1 w8 bE.1 (QRow.congr bH.1 (λf hf=>by rw[List.take_length,S9 (Bk L C q) (λi=>F.getD i 0),Eli.newRow,if_neg hO.1.2,hO.1.1];rfl)));have bY:=Y.1.keep (mG _) bE.1;have m8:=cell_next bE.1 m4;obtain⟨uG,hQ⟩:=mK (bY.has j cG);have hT:=bY.free j cG;have HQ:=Kh (show(C:Int) - 1 - ((q+1:Nat):Int)=(j:Int) - 1 by have:=cT.1;omega);have hV:=Kh (show C - (q+1)=j by have:=cT.1;omega);have hW:=Kh (show(frs L (j+1)).length=(frs L j).length by rw[C5,if_neg hO.1.2]);clear bY;go_wp2;go_roundw
          case rel=>exact⟨q+1,by omega,by rw[hV.1,hW.1],by rw[HQ.1],O.1.1,O.1.2.1,O.1.2.2⟩
          case measure=>simp[intOf]
    ·obtain rfl:C=q:=by omega
     have mR:(C:Int) - 1 - (C:Int)=-1:=by omega
     rw[mR];have tZ:¬((0:Int)<=-1):=by omega
     rw[Nat.sub_self]at Y;have nD:=Kh (show wp.heap.size<=I.heap.size from bG.1.size);have hc:∀i v,i<5->(#[.int .i64 N,.int .i64 k,.int .i64 D,.slice pf F.length cf,.slice (some ⟨GR,0,none⟩) C C]:Array Value)[i]?=some v->I.cell? ⟨M,i,none⟩=some v:=λi v _ e=>bG.1.cell (U.1.at_ i e) (λe=>by injection e with e;exact nV e)
     have rT:=Kh (hc 3 _ (by omega) rfl)
     have pM:=Kh (show ModAt I M I.heap.size N k D F C (Bk L C C)from
      ⟨mI U.1.lt nD.1,hc 0 _ (by omega) rfl,hc 1 _ (by omega) rfl,hc 2 _ (by omega) rfl,⟨_,hc 3 _ (by omega) rfl,(rW.1.but bG.1 cV.1).up nD.1⟩,GR,hc 4 _ (by omega) rfl,Y.1.stk.1,λj hj=>by
       obtain⟨g,e,hg,_,hq⟩:=Y.1.val j (Nat.zero_le _) hj;refine⟨g,e,hg,λi f hf=>?_⟩
       have hi:i<F.length:=by
        rcases Nat.lt_or_ge i F.length with h|h
        ·exact h
        ·rw[List.getElem?_eq_none h]at hf;cases hf
       have h:=hq i hi;have e:F.getD i 0=f:=by rw[List.getD_eq_getElem?_getD,hf];rfl
       rw[e]at h;exact h⟩)
     have rQ:=Kh (show Below w.heap.size w I from An (rS.1.trans (mN.1.mono (by have:=hP.1;have:=dX.1;omega))) bG.1 (mH hP.1 pB.1) hP.1);clear hc;go_wp2
     (first|go_ret2|go_ret)
     exact⟨⟨M,rfl,⟨by have:=hP.1;have:=dX.1;omega,λv g hv hg=>by
      have e:=hv.symm.trans rT.1;injection e with e
      subst e;have h1:=rV.1 g hg;have:=hP.1;have:=dX.1;omega⟩,by rw[gF.1];exact pM.1⟩,rQ.1⟩
theorem dQ (N k D Y:Int) (w:World) (hrel:∀V,Below w.heap.size w V->Calls prog 47 #[.agg #[.int .i64 N,.int .i64 k,.int .i64 D]] V λe w'=>(∃a b,e=.returned (.tuple #[.agg #[.int .i64 a,.int .i64 b,.slice none 0 0],.int .i64 Y]))/\Below V.heap.size V w') (h:Y≠0):
  Calls prog 11 #[.agg #[.int .i64 N,.int .i64 k,.int .i64 D]] w λe w'=>e=.returned (.tuple #[.pointer none,.int .i64 Y])/\Below w.heap.size w w':=by
 have J:=Kh hrel;clear hrel;go_enter func11,ntmps11
 go_wp2_with fail
 obtain⟨w0,U,Z,I⟩:=bx1 w #[.int .i64 N,.int .i64 k,.int .i64 D] 23;rw[U];clear U Z;refine(J.1 w0 I).mono ?_;rintro e V ⟨⟨a,b,rfl⟩,O⟩;have M:=Kh (I.trans (O.mono I.size));have aD:(Y != 0)=true:=by simpa using h
 clear I O J;go_wp2
 (first|go_ret2|go_ret)
 exact⟨rfl,M.1.alloc M.1.size _⟩
end Go.Proofs.YtenlbhlllgppmaaGreatDoor
